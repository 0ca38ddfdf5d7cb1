/- Towards TopJoinChanges of seat YtpgemmklfaedfacGreat: it returns true for every input. Made out of the proof's own texts, merged. -/
import Derived.KernelRfl
import Derived.Test.YtpgemmklfaedfacGreatRows
import Derived.LaidMore
import Derived.Test.YtpgemmklfaedfacGreatV31
set_option linter.unusedSimpArgs false
set_option linter.unnecessarySimpa false
set_option linter.unusedVariables false
set_option linter.unusedSectionVars false
set_option maxRecDepth 100000
namespace Go.Lq
open Go
def R85 : RFunc :=
  ⟨(.seq (.ops [⟨some 10,.mov (.tmp 1),none⟩,⟨some 11,.arith .add (.tmp 10) (.const (.int .i64 1)),none⟩,⟨some 8,.mov (.tmp 11),none⟩]) (.block 0 (.loop (.seq (.seq (.ops [⟨some 12,.mov (.tmp 8),none⟩,⟨some 13,.mov (.tmp 2),none⟩,⟨some 14,.cmp .lss (.tmp 12) (.tmp 13),none⟩]) (.cond (.tmp 14) .skip (.exit 0))) (.seq (.block 1 (.seq (.ops [⟨some 17,.mov (.tmp 8),none⟩,⟨some 9,.mov (.tmp 17),none⟩]) (.block 2 (.loop (.seq (.seq (.draw [(⟨some 18,.mov (.tmp 9),none⟩,false),(⟨some 19,.mov (.tmp 1),none⟩,false),(⟨some 20,.cmp .gtr (.tmp 18) (.tmp 19),none⟩,false),(⟨some 21,.mov (.tmp 20),none⟩,false),(⟨some 22,.mov (.tmp 3),some (21,true)⟩,false),(⟨some 23,.mov (.tmp 0),some (21,true)⟩,false),(⟨some 24,.mov (.tmp 9),some (21,true)⟩,false),(⟨some 25,.idxAddr 3 (.tmp 23) (.tmp 24),some (21,true)⟩,false),(⟨some 26,.loadN 3 (.tmp 25),some (21,true)⟩,false),(⟨some 27,.mov (.tmp 0),some (21,true)⟩,false),(⟨some 28,.mov (.tmp 9),some (21,true)⟩,false),(⟨some 29,.arith .sub (.tmp 28) (.const (.int .i64 1)),some (21,true)⟩,false),(⟨some 30,.idxAddr 3 (.tmp 27) (.tmp 29),some (21,true)⟩,false),(⟨some 31,.loadN 3 (.tmp 30),some (21,true)⟩,false),(⟨some 32,.call (.tmp 22) [.tmp 26,.tmp 31],some (21,true)⟩,true),(⟨some 33,.cmp .lss (.tmp 32) (.const (.int .i64 0)),some (21,true)⟩,false),(⟨some 34,.pick (.tmp 21) (.tmp 33) (.const (.bool false)),none⟩,false)]) (.cond (.tmp 34) .skip (.exit 2))) (.seq (.block 3 (.draw [(⟨some 37,.mov (.tmp 0),none⟩,false),(⟨some 38,.mov (.tmp 9),none⟩,false),(⟨some 39,.mov (.tmp 0),none⟩,false),(⟨some 40,.mov (.tmp 9),none⟩,false),(⟨some 41,.arith .sub (.tmp 40) (.const (.int .i64 1)),none⟩,false),(⟨some 42,.mov (.tmp 0),none⟩,false),(⟨some 43,.mov (.tmp 9),none⟩,false),(⟨some 44,.arith .sub (.tmp 43) (.const (.int .i64 1)),none⟩,false),(⟨some 45,.idxAddr 3 (.tmp 42) (.tmp 44),none⟩,false),(⟨some 46,.loadN 3 (.tmp 45),none⟩,false),(⟨some 47,.mov (.tmp 0),none⟩,false),(⟨some 48,.mov (.tmp 9),none⟩,false),(⟨some 49,.idxAddr 3 (.tmp 47) (.tmp 48),none⟩,false),(⟨some 50,.loadN 3 (.tmp 49),none⟩,false),(⟨some 51,.idxAddr 3 (.tmp 37) (.tmp 38),none⟩,false),(⟨none,.store 3 (.tmp 51) (.tmp 46),none⟩,false),(⟨some 52,.idxAddr 3 (.tmp 39) (.tmp 41),none⟩,false),(⟨none,.store 3 (.tmp 52) (.tmp 50),none⟩,false)])) (.ops [⟨some 35,.mov (.tmp 9),none⟩,⟨some 36,.arith .sub (.tmp 35) (.const (.int .i64 1)),none⟩,⟨some 9,.mov (.tmp 36),none⟩]))))))) (.ops [⟨some 15,.mov (.tmp 8),none⟩,⟨some 16,.arith .add (.tmp 15) (.const (.int .i64 1)),none⟩,⟨some 8,.mov (.tmp 16),none⟩])))))),53,[]⟩
theorem c85 : compileFn Go.Proofs.Tryz.prog Go.Proofs.Tryz.f85 = some R85 := by kernel_rfl
def R86 : RFunc :=
  ⟨(.seq (.ops [⟨some 13,.mov (.tmp 1),none⟩,⟨some 8,.mov (.tmp 13),none⟩]) (.seq (.ops [⟨some 9,.mov (.const (.int .i64 0)),none⟩]) (.seq (.ops [⟨some 14,.mov (.tmp 2),none⟩,⟨some 15,.mov (.tmp 1),none⟩,⟨some 16,.arith .sub (.tmp 14) (.tmp 15),none⟩,⟨some 10,.mov (.tmp 16),none⟩]) (.seq (.seq (.ops [⟨some 17,.mov (.tmp 10),none⟩,⟨some 18,.arith .sub (.tmp 17) (.const (.int .i64 1)),none⟩,⟨some 19,.arith .quo (.tmp 18) (.const (.int .i64 2)),none⟩,⟨some 11,.mov (.tmp 19),none⟩]) (.block 0 (.loop (.seq (.seq (.ops [⟨some 20,.mov (.tmp 11),none⟩,⟨some 21,.cmp .geq (.tmp 20) (.const (.int .i64 0)),none⟩]) (.cond (.tmp 21) .skip (.exit 0))) (.seq (.block 1 (.ops [⟨some 24,.mov (.tmp 0),none⟩,⟨some 25,.mov (.tmp 11),none⟩,⟨some 26,.mov (.tmp 10),none⟩,⟨some 27,.mov (.tmp 8),none⟩,⟨some 28,.mov (.tmp 3),none⟩,⟨some 29,.call (.func 101) [.tmp 24,.tmp 25,.tmp 26,.tmp 27,.tmp 28],none⟩])) (.ops [⟨some 22,.mov (.tmp 11),none⟩,⟨some 23,.arith .sub (.tmp 22) (.const (.int .i64 1)),none⟩,⟨some 11,.mov (.tmp 23),none⟩])))))) (.seq (.ops [⟨some 30,.mov (.tmp 10),none⟩,⟨some 31,.arith .sub (.tmp 30) (.const (.int .i64 1)),none⟩,⟨some 12,.mov (.tmp 31),none⟩]) (.block 2 (.loop (.seq (.seq (.ops [⟨some 32,.mov (.tmp 12),none⟩,⟨some 33,.cmp .geq (.tmp 32) (.const (.int .i64 0)),none⟩]) (.cond (.tmp 33) .skip (.exit 2))) (.seq (.block 3 (.seq (.draw [(⟨some 36,.mov (.tmp 0),none⟩,false),(⟨some 37,.mov (.tmp 8),none⟩,false),(⟨some 38,.mov (.tmp 0),none⟩,false),(⟨some 39,.mov (.tmp 8),none⟩,false),(⟨some 40,.mov (.tmp 12),none⟩,false),(⟨some 41,.arith .add (.tmp 39) (.tmp 40),none⟩,false),(⟨some 42,.mov (.tmp 0),none⟩,false),(⟨some 43,.mov (.tmp 8),none⟩,false),(⟨some 44,.mov (.tmp 12),none⟩,false),(⟨some 45,.arith .add (.tmp 43) (.tmp 44),none⟩,false),(⟨some 46,.idxAddr 3 (.tmp 42) (.tmp 45),none⟩,false),(⟨some 47,.loadN 3 (.tmp 46),none⟩,false),(⟨some 48,.mov (.tmp 0),none⟩,false),(⟨some 49,.mov (.tmp 8),none⟩,false),(⟨some 50,.idxAddr 3 (.tmp 48) (.tmp 49),none⟩,false),(⟨some 51,.loadN 3 (.tmp 50),none⟩,false),(⟨some 52,.idxAddr 3 (.tmp 36) (.tmp 37),none⟩,false),(⟨none,.store 3 (.tmp 52) (.tmp 47),none⟩,false),(⟨some 53,.idxAddr 3 (.tmp 38) (.tmp 41),none⟩,false),(⟨none,.store 3 (.tmp 53) (.tmp 51),none⟩,false)]) (.ops [⟨some 54,.mov (.tmp 0),none⟩,⟨some 55,.mov (.tmp 9),none⟩,⟨some 56,.mov (.tmp 12),none⟩,⟨some 57,.mov (.tmp 8),none⟩,⟨some 58,.mov (.tmp 3),none⟩,⟨some 59,.call (.func 101) [.tmp 54,.tmp 55,.tmp 56,.tmp 57,.tmp 58],none⟩]))) (.ops [⟨some 34,.mov (.tmp 12),none⟩,⟨some 35,.arith .sub (.tmp 34) (.const (.int .i64 1)),none⟩,⟨some 12,.mov (.tmp 35),none⟩])))))))))),60,[]⟩
theorem c86 : compileFn Go.Proofs.Tryz.prog Go.Proofs.Tryz.f86 = some R86 := by kernel_rfl
def R87 : RFunc :=
  ⟨(.seq (.ops [⟨some 13,.mov (.tmp 2),none⟩,⟨some 14,.mov (.tmp 1),none⟩,⟨some 15,.arith .sub (.tmp 13) (.tmp 14),none⟩,⟨some 8,.mov (.tmp 15),none⟩]) (.seq (.ops [⟨some 16,.mov (.tmp 8),none⟩,⟨some 17,.cmp .geq (.tmp 16) (.const (.int .i64 8)),none⟩]) (.cond (.tmp 17) (.seq (.ops [⟨some 18,.mov (.tmp 8),none⟩,⟨some 19,.conv .u64 (.tmp 18),none⟩,⟨some 9,.new [.int .u64 0],none⟩,⟨none,.store 1 (.tmp 9) (.tmp 19),none⟩]) (.seq (.ops [⟨some 20,.mov (.tmp 8),none⟩,⟨some 21,.call (.func 97) [.tmp 20],none⟩,⟨some 10,.mov (.tmp 21),none⟩]) (.seq (.ops [⟨some 22,.mov (.tmp 1),none⟩,⟨some 23,.mov (.tmp 8),none⟩,⟨some 24,.arith .quo (.tmp 23) (.const (.int .i64 4)),none⟩,⟨some 25,.arith .mul (.tmp 24) (.const (.int .i64 2)),none⟩,⟨some 26,.arith .add (.tmp 22) (.tmp 25),none⟩,⟨some 27,.arith .sub (.tmp 26) (.const (.int .i64 1)),none⟩,⟨some 11,.mov (.tmp 27),none⟩]) (.block 0 (.loop (.seq (.seq (.ops [⟨some 28,.mov (.tmp 11),none⟩,⟨some 29,.mov (.tmp 1),none⟩,⟨some 30,.mov (.tmp 8),none⟩,⟨some 31,.arith .quo (.tmp 30) (.const (.int .i64 4)),none⟩,⟨some 32,.arith .mul (.tmp 31) (.const (.int .i64 2)),none⟩,⟨some 33,.arith .add (.tmp 29) (.tmp 32),none⟩,⟨some 34,.arith .add (.tmp 33) (.const (.int .i64 1)),none⟩,⟨some 35,.cmp .leq (.tmp 28) (.tmp 34),none⟩]) (.cond (.tmp 35) .skip (.exit 0))) (.seq (.block 1 (.seq (.ops [⟨some 38,.call (.func 98) [.tmp 9],none⟩,⟨some 39,.mov (.tmp 10),none⟩,⟨some 40,.arith .sub (.tmp 39) (.const (.int .u64 1)),none⟩,⟨some 41,.band (.tmp 38) (.tmp 40),none⟩,⟨some 42,.conv .i64 (.tmp 41),none⟩,⟨some 12,.mov (.tmp 42),none⟩]) (.seq (.seq (.ops [⟨some 43,.mov (.tmp 12),none⟩,⟨some 44,.mov (.tmp 8),none⟩,⟨some 45,.cmp .geq (.tmp 43) (.tmp 44),none⟩]) (.cond (.tmp 45) (.ops [⟨some 46,.mov (.tmp 12),none⟩,⟨some 47,.mov (.tmp 8),none⟩,⟨some 48,.arith .sub (.tmp 46) (.tmp 47),none⟩,⟨some 12,.mov (.tmp 48),none⟩]) .skip)) (.draw [(⟨some 49,.mov (.tmp 0),none⟩,false),(⟨some 50,.mov (.tmp 11),none⟩,false),(⟨some 51,.mov (.tmp 0),none⟩,false),(⟨some 52,.mov (.tmp 1),none⟩,false),(⟨some 53,.mov (.tmp 12),none⟩,false),(⟨some 54,.arith .add (.tmp 52) (.tmp 53),none⟩,false),(⟨some 55,.mov (.tmp 0),none⟩,false),(⟨some 56,.mov (.tmp 1),none⟩,false),(⟨some 57,.mov (.tmp 12),none⟩,false),(⟨some 58,.arith .add (.tmp 56) (.tmp 57),none⟩,false),(⟨some 59,.idxAddr 3 (.tmp 55) (.tmp 58),none⟩,false),(⟨some 60,.loadN 3 (.tmp 59),none⟩,false),(⟨some 61,.mov (.tmp 0),none⟩,false),(⟨some 62,.mov (.tmp 11),none⟩,false),(⟨some 63,.idxAddr 3 (.tmp 61) (.tmp 62),none⟩,false),(⟨some 64,.loadN 3 (.tmp 63),none⟩,false),(⟨some 65,.idxAddr 3 (.tmp 49) (.tmp 50),none⟩,false),(⟨none,.store 3 (.tmp 65) (.tmp 60),none⟩,false),(⟨some 66,.idxAddr 3 (.tmp 51) (.tmp 54),none⟩,false),(⟨none,.store 3 (.tmp 66) (.tmp 64),none⟩,false)])))) (.ops [⟨some 36,.mov (.tmp 11),none⟩,⟨some 37,.arith .add (.tmp 36) (.const (.int .i64 1)),none⟩,⟨some 11,.mov (.tmp 37),none⟩])))))))) .skip))),67,[]⟩
theorem c87 : compileFn Go.Proofs.Tryz.prog Go.Proofs.Tryz.f87 = some R87 := by kernel_rfl
def R88 : RFunc :=
  ⟨(.seq (.ops [⟨some 8,.mov (.const (.int .i64 0)),none⟩,⟨some 9,.mov (.const (.int .i64 0)),none⟩]) (.seq (.ops [⟨some 15,.mov (.tmp 2),none⟩,⟨some 16,.mov (.tmp 1),none⟩,⟨some 17,.arith .sub (.tmp 15) (.tmp 16),none⟩,⟨some 10,.mov (.tmp 17),none⟩]) (.seq (.ops [⟨some 11,.new [.int .i64 0],none⟩]) (.seq (.ops [⟨some 18,.mov (.tmp 1),none⟩,⟨some 19,.mov (.tmp 10),none⟩,⟨some 20,.arith .quo (.tmp 19) (.const (.int .i64 4)),none⟩,⟨some 21,.arith .mul (.tmp 20) (.const (.int .i64 1)),none⟩,⟨some 22,.arith .add (.tmp 18) (.tmp 21),none⟩,⟨some 12,.mov (.tmp 22),none⟩]) (.seq (.ops [⟨some 23,.mov (.tmp 1),none⟩,⟨some 24,.mov (.tmp 10),none⟩,⟨some 25,.arith .quo (.tmp 24) (.const (.int .i64 4)),none⟩,⟨some 26,.arith .mul (.tmp 25) (.const (.int .i64 2)),none⟩,⟨some 27,.arith .add (.tmp 23) (.tmp 26),none⟩,⟨some 13,.mov (.tmp 27),none⟩]) (.seq (.ops [⟨some 28,.mov (.tmp 1),none⟩,⟨some 29,.mov (.tmp 10),none⟩,⟨some 30,.arith .quo (.tmp 29) (.const (.int .i64 4)),none⟩,⟨some 31,.arith .mul (.tmp 30) (.const (.int .i64 3)),none⟩,⟨some 32,.arith .add (.tmp 28) (.tmp 31),none⟩,⟨some 14,.mov (.tmp 32),none⟩]) (.seq (.seq (.ops [⟨some 33,.mov (.tmp 10),none⟩,⟨some 34,.cmp .geq (.tmp 33) (.const (.int .i64 8)),none⟩]) (.cond (.tmp 34) (.seq (.seq (.ops [⟨some 35,.mov (.tmp 10),none⟩,⟨some 36,.cmp .geq (.tmp 35) (.const (.int .i64 50)),none⟩]) (.cond (.tmp 36) (.seq (.ops [⟨some 37,.mov (.tmp 0),none⟩,⟨some 38,.mov (.tmp 12),none⟩,⟨some 39,.mov (.tmp 3),none⟩,⟨some 40,.call (.func 102) [.tmp 37,.tmp 38,.tmp 11,.tmp 39],none⟩,⟨some 12,.mov (.tmp 40),none⟩]) (.seq (.ops [⟨some 41,.mov (.tmp 0),none⟩,⟨some 42,.mov (.tmp 13),none⟩,⟨some 43,.mov (.tmp 3),none⟩,⟨some 44,.call (.func 102) [.tmp 41,.tmp 42,.tmp 11,.tmp 43],none⟩,⟨some 13,.mov (.tmp 44),none⟩]) (.ops [⟨some 45,.mov (.tmp 0),none⟩,⟨some 46,.mov (.tmp 14),none⟩,⟨some 47,.mov (.tmp 3),none⟩,⟨some 48,.call (.func 102) [.tmp 45,.tmp 46,.tmp 11,.tmp 47],none⟩,⟨some 14,.mov (.tmp 48),none⟩]))) .skip)) (.ops [⟨some 49,.mov (.tmp 0),none⟩,⟨some 50,.mov (.tmp 12),none⟩,⟨some 51,.mov (.tmp 13),none⟩,⟨some 52,.mov (.tmp 14),none⟩,⟨some 53,.mov (.tmp 3),none⟩,⟨some 54,.call (.func 103) [.tmp 49,.tmp 50,.tmp 51,.tmp 52,.tmp 11,.tmp 53],none⟩,⟨some 13,.mov (.tmp 54),none⟩])) .skip)) (.seq (.ops [⟨some 55,.load (.tmp 11),none⟩]) (.block 0 (.seq (.ops [⟨some 58,.cmp .eql (.tmp 55) (.const (.int .i64 0)),none⟩,⟨some 57,.mov (.tmp 58),none⟩]) (.cond (.tmp 57) (.seq (.ops [⟨some 59,.mov (.tmp 13),none⟩,⟨some 8,.mov (.tmp 59),none⟩,⟨some 9,.mov (.const (.int .i64 1)),none⟩]) .ret) (.seq (.ops [⟨some 61,.cmp .eql (.tmp 55) (.const (.int .i64 12)),none⟩,⟨some 60,.mov (.tmp 61),none⟩]) (.cond (.tmp 60) (.seq (.ops [⟨some 62,.mov (.tmp 13),none⟩,⟨some 8,.mov (.tmp 62),none⟩,⟨some 9,.mov (.const (.int .i64 2)),none⟩]) .ret) (.seq (.ops [⟨some 56,.mov (.tmp 13),none⟩,⟨some 8,.mov (.tmp 56),none⟩,⟨some 9,.mov (.const (.int .i64 0)),none⟩]) .ret)))))))))))))),63,[.tmp 8,.tmp 9]⟩
theorem c88 : compileFn Go.Proofs.Tryz.prog Go.Proofs.Tryz.f88 = some R88 := by kernel_rfl
def R89 : RFunc :=
  ⟨(.seq (.ops [⟨some 10,.mov (.tmp 1),none⟩,⟨some 8,.mov (.tmp 10),none⟩]) (.seq (.ops [⟨some 11,.mov (.tmp 2),none⟩,⟨some 12,.arith .sub (.tmp 11) (.const (.int .i64 1)),none⟩,⟨some 9,.mov (.tmp 12),none⟩]) (.block 0 (.loop (.seq (.seq (.ops [⟨some 13,.mov (.tmp 8),none⟩,⟨some 14,.mov (.tmp 9),none⟩,⟨some 15,.cmp .lss (.tmp 13) (.tmp 14),none⟩]) (.cond (.tmp 15) .skip (.exit 0))) (.block 1 (.seq (.draw [(⟨some 16,.mov (.tmp 0),none⟩,false),(⟨some 17,.mov (.tmp 8),none⟩,false),(⟨some 18,.mov (.tmp 0),none⟩,false),(⟨some 19,.mov (.tmp 9),none⟩,false),(⟨some 20,.mov (.tmp 0),none⟩,false),(⟨some 21,.mov (.tmp 9),none⟩,false),(⟨some 22,.idxAddr 3 (.tmp 20) (.tmp 21),none⟩,false),(⟨some 23,.loadN 3 (.tmp 22),none⟩,false),(⟨some 24,.mov (.tmp 0),none⟩,false),(⟨some 25,.mov (.tmp 8),none⟩,false),(⟨some 26,.idxAddr 3 (.tmp 24) (.tmp 25),none⟩,false),(⟨some 27,.loadN 3 (.tmp 26),none⟩,false),(⟨some 28,.idxAddr 3 (.tmp 16) (.tmp 17),none⟩,false),(⟨none,.store 3 (.tmp 28) (.tmp 23),none⟩,false),(⟨some 29,.idxAddr 3 (.tmp 18) (.tmp 19),none⟩,false),(⟨none,.store 3 (.tmp 29) (.tmp 27),none⟩,false)]) (.seq (.ops [⟨some 30,.mov (.tmp 8),none⟩,⟨some 31,.arith .add (.tmp 30) (.const (.int .i64 1)),none⟩,⟨some 8,.mov (.tmp 31),none⟩]) (.ops [⟨some 32,.mov (.tmp 9),none⟩,⟨some 33,.arith .sub (.tmp 32) (.const (.int .i64 1)),none⟩,⟨some 9,.mov (.tmp 33),none⟩]))))))))),34,[]⟩
theorem c89 : compileFn Go.Proofs.Tryz.prog Go.Proofs.Tryz.f89 = some R89 := by kernel_rfl
def R90 : RFunc :=
  ⟨(.seq (.ops [⟨some 8,.mov (.const (.bool false)),none⟩]) (.seq (.ops [⟨some 13,.mov (.tmp 1),none⟩,⟨some 14,.arith .add (.tmp 13) (.const (.int .i64 1)),none⟩,⟨some 9,.mov (.tmp 14),none⟩]) (.seq (.seq (.ops [⟨some 10,.mov (.const (.int .i64 0)),none⟩]) (.block 0 (.loop (.seq (.seq (.ops [⟨some 15,.mov (.tmp 10),none⟩,⟨some 16,.cmp .lss (.tmp 15) (.const (.int .i64 5)),none⟩]) (.cond (.tmp 16) .skip (.exit 0))) (.seq (.block 1 (.seq (.block 2 (.loop (.seq (.seq (.draw [(⟨some 19,.mov (.tmp 9),none⟩,false),(⟨some 20,.mov (.tmp 2),none⟩,false),(⟨some 21,.cmp .lss (.tmp 19) (.tmp 20),none⟩,false),(⟨some 22,.mov (.tmp 21),none⟩,false),(⟨some 23,.mov (.tmp 3),some (22,true)⟩,false),(⟨some 24,.mov (.tmp 0),some (22,true)⟩,false),(⟨some 25,.mov (.tmp 9),some (22,true)⟩,false),(⟨some 26,.idxAddr 3 (.tmp 24) (.tmp 25),some (22,true)⟩,false),(⟨some 27,.loadN 3 (.tmp 26),some (22,true)⟩,false),(⟨some 28,.mov (.tmp 0),some (22,true)⟩,false),(⟨some 29,.mov (.tmp 9),some (22,true)⟩,false),(⟨some 30,.arith .sub (.tmp 29) (.const (.int .i64 1)),some (22,true)⟩,false),(⟨some 31,.idxAddr 3 (.tmp 28) (.tmp 30),some (22,true)⟩,false),(⟨some 32,.loadN 3 (.tmp 31),some (22,true)⟩,false),(⟨some 33,.call (.tmp 23) [.tmp 27,.tmp 32],some (22,true)⟩,true),(⟨some 34,.cmp .lss (.tmp 33) (.const (.int .i64 0)),some (22,true)⟩,false),(⟨some 35,.not (.tmp 34),some (22,true)⟩,false),(⟨some 36,.pick (.tmp 22) (.tmp 35) (.const (.bool false)),none⟩,false)]) (.cond (.tmp 36) .skip (.exit 2))) (.block 3 (.ops [⟨some 37,.mov (.tmp 9),none⟩,⟨some 38,.arith .add (.tmp 37) (.const (.int .i64 1)),none⟩,⟨some 9,.mov (.tmp 38),none⟩]))))) (.seq (.seq (.ops [⟨some 39,.mov (.tmp 9),none⟩,⟨some 40,.mov (.tmp 2),none⟩,⟨some 41,.cmp .eql (.tmp 39) (.tmp 40),none⟩]) (.cond (.tmp 41) (.seq (.ops [⟨some 8,.mov (.const (.bool true)),none⟩]) .ret) .skip)) (.seq (.seq (.ops [⟨some 42,.mov (.tmp 2),none⟩,⟨some 43,.mov (.tmp 1),none⟩,⟨some 44,.arith .sub (.tmp 42) (.tmp 43),none⟩,⟨some 45,.cmp .lss (.tmp 44) (.const (.int .i64 50)),none⟩]) (.cond (.tmp 45) (.seq (.ops [⟨some 8,.mov (.const (.bool false)),none⟩]) .ret) .skip)) (.seq (.draw [(⟨some 46,.mov (.tmp 0),none⟩,false),(⟨some 47,.mov (.tmp 9),none⟩,false),(⟨some 48,.mov (.tmp 0),none⟩,false),(⟨some 49,.mov (.tmp 9),none⟩,false),(⟨some 50,.arith .sub (.tmp 49) (.const (.int .i64 1)),none⟩,false),(⟨some 51,.mov (.tmp 0),none⟩,false),(⟨some 52,.mov (.tmp 9),none⟩,false),(⟨some 53,.arith .sub (.tmp 52) (.const (.int .i64 1)),none⟩,false),(⟨some 54,.idxAddr 3 (.tmp 51) (.tmp 53),none⟩,false),(⟨some 55,.loadN 3 (.tmp 54),none⟩,false),(⟨some 56,.mov (.tmp 0),none⟩,false),(⟨some 57,.mov (.tmp 9),none⟩,false),(⟨some 58,.idxAddr 3 (.tmp 56) (.tmp 57),none⟩,false),(⟨some 59,.loadN 3 (.tmp 58),none⟩,false),(⟨some 60,.idxAddr 3 (.tmp 46) (.tmp 47),none⟩,false),(⟨none,.store 3 (.tmp 60) (.tmp 55),none⟩,false),(⟨some 61,.idxAddr 3 (.tmp 48) (.tmp 50),none⟩,false),(⟨none,.store 3 (.tmp 61) (.tmp 59),none⟩,false)]) (.seq (.seq (.ops [⟨some 62,.mov (.tmp 9),none⟩,⟨some 63,.mov (.tmp 1),none⟩,⟨some 64,.arith .sub (.tmp 62) (.tmp 63),none⟩,⟨some 65,.cmp .geq (.tmp 64) (.const (.int .i64 2)),none⟩]) (.cond (.tmp 65) (.seq (.ops [⟨some 66,.mov (.tmp 9),none⟩,⟨some 67,.arith .sub (.tmp 66) (.const (.int .i64 1)),none⟩,⟨some 11,.mov (.tmp 67),none⟩]) (.block 4 (.loop (.seq (.seq (.ops [⟨some 68,.mov (.tmp 11),none⟩,⟨some 69,.cmp .geq (.tmp 68) (.const (.int .i64 1)),none⟩]) (.cond (.tmp 69) .skip (.exit 4))) (.seq (.block 5 (.seq (.seq (.draw [(⟨some 72,.mov (.tmp 3),none⟩,false),(⟨some 73,.mov (.tmp 0),none⟩,false),(⟨some 74,.mov (.tmp 11),none⟩,false),(⟨some 75,.idxAddr 3 (.tmp 73) (.tmp 74),none⟩,false),(⟨some 76,.loadN 3 (.tmp 75),none⟩,false),(⟨some 77,.mov (.tmp 0),none⟩,false),(⟨some 78,.mov (.tmp 11),none⟩,false),(⟨some 79,.arith .sub (.tmp 78) (.const (.int .i64 1)),none⟩,false),(⟨some 80,.idxAddr 3 (.tmp 77) (.tmp 79),none⟩,false),(⟨some 81,.loadN 3 (.tmp 80),none⟩,false),(⟨some 82,.call (.tmp 72) [.tmp 76,.tmp 81],none⟩,true),(⟨some 83,.cmp .lss (.tmp 82) (.const (.int .i64 0)),none⟩,false),(⟨some 84,.not (.tmp 83),none⟩,false)]) (.cond (.tmp 84) (.exit 4) .skip)) (.draw [(⟨some 85,.mov (.tmp 0),none⟩,false),(⟨some 86,.mov (.tmp 11),none⟩,false),(⟨some 87,.mov (.tmp 0),none⟩,false),(⟨some 88,.mov (.tmp 11),none⟩,false),(⟨some 89,.arith .sub (.tmp 88) (.const (.int .i64 1)),none⟩,false),(⟨some 90,.mov (.tmp 0),none⟩,false),(⟨some 91,.mov (.tmp 11),none⟩,false),(⟨some 92,.arith .sub (.tmp 91) (.const (.int .i64 1)),none⟩,false),(⟨some 93,.idxAddr 3 (.tmp 90) (.tmp 92),none⟩,false),(⟨some 94,.loadN 3 (.tmp 93),none⟩,false),(⟨some 95,.mov (.tmp 0),none⟩,false),(⟨some 96,.mov (.tmp 11),none⟩,false),(⟨some 97,.idxAddr 3 (.tmp 95) (.tmp 96),none⟩,false),(⟨some 98,.loadN 3 (.tmp 97),none⟩,false),(⟨some 99,.idxAddr 3 (.tmp 85) (.tmp 86),none⟩,false),(⟨none,.store 3 (.tmp 99) (.tmp 94),none⟩,false),(⟨some 100,.idxAddr 3 (.tmp 87) (.tmp 89),none⟩,false),(⟨none,.store 3 (.tmp 100) (.tmp 98),none⟩,false)]))) (.ops [⟨some 70,.mov (.tmp 11),none⟩,⟨some 71,.arith .sub (.tmp 70) (.const (.int .i64 1)),none⟩,⟨some 11,.mov (.tmp 71),none⟩])))))) .skip)) (.seq (.ops [⟨some 101,.mov (.tmp 2),none⟩,⟨some 102,.mov (.tmp 9),none⟩,⟨some 103,.arith .sub (.tmp 101) (.tmp 102),none⟩,⟨some 104,.cmp .geq (.tmp 103) (.const (.int .i64 2)),none⟩]) (.cond (.tmp 104) (.seq (.ops [⟨some 105,.mov (.tmp 9),none⟩,⟨some 106,.arith .add (.tmp 105) (.const (.int .i64 1)),none⟩,⟨some 12,.mov (.tmp 106),none⟩]) (.block 6 (.loop (.seq (.seq (.ops [⟨some 107,.mov (.tmp 12),none⟩,⟨some 108,.mov (.tmp 2),none⟩,⟨some 109,.cmp .lss (.tmp 107) (.tmp 108),none⟩]) (.cond (.tmp 109) .skip (.exit 6))) (.seq (.block 7 (.seq (.seq (.draw [(⟨some 112,.mov (.tmp 3),none⟩,false),(⟨some 113,.mov (.tmp 0),none⟩,false),(⟨some 114,.mov (.tmp 12),none⟩,false),(⟨some 115,.idxAddr 3 (.tmp 113) (.tmp 114),none⟩,false),(⟨some 116,.loadN 3 (.tmp 115),none⟩,false),(⟨some 117,.mov (.tmp 0),none⟩,false),(⟨some 118,.mov (.tmp 12),none⟩,false),(⟨some 119,.arith .sub (.tmp 118) (.const (.int .i64 1)),none⟩,false),(⟨some 120,.idxAddr 3 (.tmp 117) (.tmp 119),none⟩,false),(⟨some 121,.loadN 3 (.tmp 120),none⟩,false),(⟨some 122,.call (.tmp 112) [.tmp 116,.tmp 121],none⟩,true),(⟨some 123,.cmp .lss (.tmp 122) (.const (.int .i64 0)),none⟩,false),(⟨some 124,.not (.tmp 123),none⟩,false)]) (.cond (.tmp 124) (.exit 6) .skip)) (.draw [(⟨some 125,.mov (.tmp 0),none⟩,false),(⟨some 126,.mov (.tmp 12),none⟩,false),(⟨some 127,.mov (.tmp 0),none⟩,false),(⟨some 128,.mov (.tmp 12),none⟩,false),(⟨some 129,.arith .sub (.tmp 128) (.const (.int .i64 1)),none⟩,false),(⟨some 130,.mov (.tmp 0),none⟩,false),(⟨some 131,.mov (.tmp 12),none⟩,false),(⟨some 132,.arith .sub (.tmp 131) (.const (.int .i64 1)),none⟩,false),(⟨some 133,.idxAddr 3 (.tmp 130) (.tmp 132),none⟩,false),(⟨some 134,.loadN 3 (.tmp 133),none⟩,false),(⟨some 135,.mov (.tmp 0),none⟩,false),(⟨some 136,.mov (.tmp 12),none⟩,false),(⟨some 137,.idxAddr 3 (.tmp 135) (.tmp 136),none⟩,false),(⟨some 138,.loadN 3 (.tmp 137),none⟩,false),(⟨some 139,.idxAddr 3 (.tmp 125) (.tmp 126),none⟩,false),(⟨none,.store 3 (.tmp 139) (.tmp 134),none⟩,false),(⟨some 140,.idxAddr 3 (.tmp 127) (.tmp 129),none⟩,false),(⟨none,.store 3 (.tmp 140) (.tmp 138),none⟩,false)]))) (.ops [⟨some 110,.mov (.tmp 12),none⟩,⟨some 111,.arith .add (.tmp 110) (.const (.int .i64 1)),none⟩,⟨some 12,.mov (.tmp 111),none⟩])))))) .skip)))))))) (.ops [⟨some 17,.mov (.tmp 10),none⟩,⟨some 18,.arith .add (.tmp 17) (.const (.int .i64 1)),none⟩,⟨some 10,.mov (.tmp 18),none⟩])))))) (.seq (.ops [⟨some 8,.mov (.const (.bool false)),none⟩]) .ret)))),141,[.tmp 8]⟩
theorem c90 : compileFn Go.Proofs.Tryz.prog Go.Proofs.Tryz.f90 = some R90 := by kernel_rfl
def R91 : RFunc :=
  ⟨(.seq (.ops [⟨some 10,.mov (.const (.int .i64 0)),none⟩]) (.seq (.draw [(⟨some 13,.mov (.tmp 0),none⟩,false),(⟨some 14,.mov (.tmp 1),none⟩,false),(⟨some 15,.mov (.tmp 0),none⟩,false),(⟨some 16,.mov (.tmp 3),none⟩,false),(⟨some 17,.mov (.tmp 0),none⟩,false),(⟨some 18,.mov (.tmp 3),none⟩,false),(⟨some 19,.idxAddr 3 (.tmp 17) (.tmp 18),none⟩,false),(⟨some 20,.loadN 3 (.tmp 19),none⟩,false),(⟨some 21,.mov (.tmp 0),none⟩,false),(⟨some 22,.mov (.tmp 1),none⟩,false),(⟨some 23,.idxAddr 3 (.tmp 21) (.tmp 22),none⟩,false),(⟨some 24,.loadN 3 (.tmp 23),none⟩,false),(⟨some 25,.idxAddr 3 (.tmp 13) (.tmp 14),none⟩,false),(⟨none,.store 3 (.tmp 25) (.tmp 20),none⟩,false),(⟨some 26,.idxAddr 3 (.tmp 15) (.tmp 16),none⟩,false),(⟨none,.store 3 (.tmp 26) (.tmp 24),none⟩,false)]) (.seq (.ops [⟨some 27,.mov (.tmp 1),none⟩,⟨some 28,.arith .add (.tmp 27) (.const (.int .i64 1)),none⟩,⟨some 29,.mov (.tmp 2),none⟩,⟨some 30,.arith .sub (.tmp 29) (.const (.int .i64 1)),none⟩,⟨some 11,.mov (.tmp 28),none⟩,⟨some 12,.mov (.tmp 30),none⟩]) (.seq (.block 0 (.loop (.block 1 (.seq (.block 2 (.loop (.seq (.seq (.draw [(⟨some 31,.mov (.tmp 11),none⟩,false),(⟨some 32,.mov (.tmp 12),none⟩,false),(⟨some 33,.cmp .leq (.tmp 31) (.tmp 32),none⟩,false),(⟨some 34,.mov (.tmp 33),none⟩,false),(⟨some 35,.mov (.tmp 4),some (34,true)⟩,false),(⟨some 36,.mov (.tmp 0),some (34,true)⟩,false),(⟨some 37,.mov (.tmp 1),some (34,true)⟩,false),(⟨some 38,.idxAddr 3 (.tmp 36) (.tmp 37),some (34,true)⟩,false),(⟨some 39,.loadN 3 (.tmp 38),some (34,true)⟩,false),(⟨some 40,.mov (.tmp 0),some (34,true)⟩,false),(⟨some 41,.mov (.tmp 11),some (34,true)⟩,false),(⟨some 42,.idxAddr 3 (.tmp 40) (.tmp 41),some (34,true)⟩,false),(⟨some 43,.loadN 3 (.tmp 42),some (34,true)⟩,false),(⟨some 44,.call (.tmp 35) [.tmp 39,.tmp 43],some (34,true)⟩,true),(⟨some 45,.cmp .lss (.tmp 44) (.const (.int .i64 0)),some (34,true)⟩,false),(⟨some 46,.not (.tmp 45),some (34,true)⟩,false),(⟨some 47,.pick (.tmp 34) (.tmp 46) (.const (.bool false)),none⟩,false)]) (.cond (.tmp 47) .skip (.exit 2))) (.block 3 (.ops [⟨some 48,.mov (.tmp 11),none⟩,⟨some 49,.arith .add (.tmp 48) (.const (.int .i64 1)),none⟩,⟨some 11,.mov (.tmp 49),none⟩]))))) (.seq (.block 4 (.loop (.seq (.seq (.draw [(⟨some 50,.mov (.tmp 11),none⟩,false),(⟨some 51,.mov (.tmp 12),none⟩,false),(⟨some 52,.cmp .leq (.tmp 50) (.tmp 51),none⟩,false),(⟨some 53,.mov (.tmp 52),none⟩,false),(⟨some 54,.mov (.tmp 4),some (53,true)⟩,false),(⟨some 55,.mov (.tmp 0),some (53,true)⟩,false),(⟨some 56,.mov (.tmp 1),some (53,true)⟩,false),(⟨some 57,.idxAddr 3 (.tmp 55) (.tmp 56),some (53,true)⟩,false),(⟨some 58,.loadN 3 (.tmp 57),some (53,true)⟩,false),(⟨some 59,.mov (.tmp 0),some (53,true)⟩,false),(⟨some 60,.mov (.tmp 12),some (53,true)⟩,false),(⟨some 61,.idxAddr 3 (.tmp 59) (.tmp 60),some (53,true)⟩,false),(⟨some 62,.loadN 3 (.tmp 61),some (53,true)⟩,false),(⟨some 63,.call (.tmp 54) [.tmp 58,.tmp 62],some (53,true)⟩,true),(⟨some 64,.cmp .lss (.tmp 63) (.const (.int .i64 0)),some (53,true)⟩,false),(⟨some 65,.pick (.tmp 53) (.tmp 64) (.const (.bool false)),none⟩,false)]) (.cond (.tmp 65) .skip (.exit 4))) (.block 5 (.ops [⟨some 66,.mov (.tmp 12),none⟩,⟨some 67,.arith .sub (.tmp 66) (.const (.int .i64 1)),none⟩,⟨some 12,.mov (.tmp 67),none⟩]))))) (.seq (.seq (.ops [⟨some 68,.mov (.tmp 11),none⟩,⟨some 69,.mov (.tmp 12),none⟩,⟨some 70,.cmp .gtr (.tmp 68) (.tmp 69),none⟩]) (.cond (.tmp 70) (.exit 0) .skip)) (.seq (.draw [(⟨some 71,.mov (.tmp 0),none⟩,false),(⟨some 72,.mov (.tmp 11),none⟩,false),(⟨some 73,.mov (.tmp 0),none⟩,false),(⟨some 74,.mov (.tmp 12),none⟩,false),(⟨some 75,.mov (.tmp 0),none⟩,false),(⟨some 76,.mov (.tmp 12),none⟩,false),(⟨some 77,.idxAddr 3 (.tmp 75) (.tmp 76),none⟩,false),(⟨some 78,.loadN 3 (.tmp 77),none⟩,false),(⟨some 79,.mov (.tmp 0),none⟩,false),(⟨some 80,.mov (.tmp 11),none⟩,false),(⟨some 81,.idxAddr 3 (.tmp 79) (.tmp 80),none⟩,false),(⟨some 82,.loadN 3 (.tmp 81),none⟩,false),(⟨some 83,.idxAddr 3 (.tmp 71) (.tmp 72),none⟩,false),(⟨none,.store 3 (.tmp 83) (.tmp 78),none⟩,false),(⟨some 84,.idxAddr 3 (.tmp 73) (.tmp 74),none⟩,false),(⟨none,.store 3 (.tmp 84) (.tmp 82),none⟩,false)]) (.seq (.ops [⟨some 85,.mov (.tmp 11),none⟩,⟨some 86,.arith .add (.tmp 85) (.const (.int .i64 1)),none⟩,⟨some 11,.mov (.tmp 86),none⟩]) (.ops [⟨some 87,.mov (.tmp 12),none⟩,⟨some 88,.arith .sub (.tmp 87) (.const (.int .i64 1)),none⟩,⟨some 12,.mov (.tmp 88),none⟩]))))))))) (.seq (.ops [⟨some 89,.mov (.tmp 11),none⟩,⟨some 10,.mov (.tmp 89),none⟩]) .ret))))),90,[.tmp 10]⟩
theorem c91 : compileFn Go.Proofs.Tryz.prog Go.Proofs.Tryz.f91 = some R91 := by kernel_rfl
def R92 : RFunc :=
  ⟨(.seq (.ops [⟨some 10,.mov (.const (.int .i64 0)),none⟩,⟨some 11,.mov (.const (.bool false)),none⟩]) (.seq (.draw [(⟨some 14,.mov (.tmp 0),none⟩,false),(⟨some 15,.mov (.tmp 1),none⟩,false),(⟨some 16,.mov (.tmp 0),none⟩,false),(⟨some 17,.mov (.tmp 3),none⟩,false),(⟨some 18,.mov (.tmp 0),none⟩,false),(⟨some 19,.mov (.tmp 3),none⟩,false),(⟨some 20,.idxAddr 3 (.tmp 18) (.tmp 19),none⟩,false),(⟨some 21,.loadN 3 (.tmp 20),none⟩,false),(⟨some 22,.mov (.tmp 0),none⟩,false),(⟨some 23,.mov (.tmp 1),none⟩,false),(⟨some 24,.idxAddr 3 (.tmp 22) (.tmp 23),none⟩,false),(⟨some 25,.loadN 3 (.tmp 24),none⟩,false),(⟨some 26,.idxAddr 3 (.tmp 14) (.tmp 15),none⟩,false),(⟨none,.store 3 (.tmp 26) (.tmp 21),none⟩,false),(⟨some 27,.idxAddr 3 (.tmp 16) (.tmp 17),none⟩,false),(⟨none,.store 3 (.tmp 27) (.tmp 25),none⟩,false)]) (.seq (.ops [⟨some 28,.mov (.tmp 1),none⟩,⟨some 29,.arith .add (.tmp 28) (.const (.int .i64 1)),none⟩,⟨some 30,.mov (.tmp 2),none⟩,⟨some 31,.arith .sub (.tmp 30) (.const (.int .i64 1)),none⟩,⟨some 12,.mov (.tmp 29),none⟩,⟨some 13,.mov (.tmp 31),none⟩]) (.seq (.block 0 (.loop (.seq (.seq (.draw [(⟨some 32,.mov (.tmp 12),none⟩,false),(⟨some 33,.mov (.tmp 13),none⟩,false),(⟨some 34,.cmp .leq (.tmp 32) (.tmp 33),none⟩,false),(⟨some 35,.mov (.tmp 34),none⟩,false),(⟨some 36,.mov (.tmp 4),some (35,true)⟩,false),(⟨some 37,.mov (.tmp 0),some (35,true)⟩,false),(⟨some 38,.mov (.tmp 12),some (35,true)⟩,false),(⟨some 39,.idxAddr 3 (.tmp 37) (.tmp 38),some (35,true)⟩,false),(⟨some 40,.loadN 3 (.tmp 39),some (35,true)⟩,false),(⟨some 41,.mov (.tmp 0),some (35,true)⟩,false),(⟨some 42,.mov (.tmp 1),some (35,true)⟩,false),(⟨some 43,.idxAddr 3 (.tmp 41) (.tmp 42),some (35,true)⟩,false),(⟨some 44,.loadN 3 (.tmp 43),some (35,true)⟩,false),(⟨some 45,.call (.tmp 36) [.tmp 40,.tmp 44],some (35,true)⟩,true),(⟨some 46,.cmp .lss (.tmp 45) (.const (.int .i64 0)),some (35,true)⟩,false),(⟨some 47,.pick (.tmp 35) (.tmp 46) (.const (.bool false)),none⟩,false)]) (.cond (.tmp 47) .skip (.exit 0))) (.block 1 (.ops [⟨some 48,.mov (.tmp 12),none⟩,⟨some 49,.arith .add (.tmp 48) (.const (.int .i64 1)),none⟩,⟨some 12,.mov (.tmp 49),none⟩]))))) (.seq (.block 2 (.loop (.seq (.seq (.draw [(⟨some 50,.mov (.tmp 12),none⟩,false),(⟨some 51,.mov (.tmp 13),none⟩,false),(⟨some 52,.cmp .leq (.tmp 50) (.tmp 51),none⟩,false),(⟨some 53,.mov (.tmp 52),none⟩,false),(⟨some 54,.mov (.tmp 4),some (53,true)⟩,false),(⟨some 55,.mov (.tmp 0),some (53,true)⟩,false),(⟨some 56,.mov (.tmp 13),some (53,true)⟩,false),(⟨some 57,.idxAddr 3 (.tmp 55) (.tmp 56),some (53,true)⟩,false),(⟨some 58,.loadN 3 (.tmp 57),some (53,true)⟩,false),(⟨some 59,.mov (.tmp 0),some (53,true)⟩,false),(⟨some 60,.mov (.tmp 1),some (53,true)⟩,false),(⟨some 61,.idxAddr 3 (.tmp 59) (.tmp 60),some (53,true)⟩,false),(⟨some 62,.loadN 3 (.tmp 61),some (53,true)⟩,false),(⟨some 63,.call (.tmp 54) [.tmp 58,.tmp 62],some (53,true)⟩,true),(⟨some 64,.cmp .lss (.tmp 63) (.const (.int .i64 0)),some (53,true)⟩,false),(⟨some 65,.not (.tmp 64),some (53,true)⟩,false),(⟨some 66,.pick (.tmp 53) (.tmp 65) (.const (.bool false)),none⟩,false)]) (.cond (.tmp 66) .skip (.exit 2))) (.block 3 (.ops [⟨some 67,.mov (.tmp 13),none⟩,⟨some 68,.arith .sub (.tmp 67) (.const (.int .i64 1)),none⟩,⟨some 13,.mov (.tmp 68),none⟩]))))) (.seq (.seq (.ops [⟨some 69,.mov (.tmp 12),none⟩,⟨some 70,.mov (.tmp 13),none⟩,⟨some 71,.cmp .gtr (.tmp 69) (.tmp 70),none⟩]) (.cond (.tmp 71) (.seq (.draw [(⟨some 72,.mov (.tmp 0),none⟩,false),(⟨some 73,.mov (.tmp 13),none⟩,false),(⟨some 74,.mov (.tmp 0),none⟩,false),(⟨some 75,.mov (.tmp 1),none⟩,false),(⟨some 76,.mov (.tmp 0),none⟩,false),(⟨some 77,.mov (.tmp 1),none⟩,false),(⟨some 78,.idxAddr 3 (.tmp 76) (.tmp 77),none⟩,false),(⟨some 79,.loadN 3 (.tmp 78),none⟩,false),(⟨some 80,.mov (.tmp 0),none⟩,false),(⟨some 81,.mov (.tmp 13),none⟩,false),(⟨some 82,.idxAddr 3 (.tmp 80) (.tmp 81),none⟩,false),(⟨some 83,.loadN 3 (.tmp 82),none⟩,false),(⟨some 84,.idxAddr 3 (.tmp 72) (.tmp 73),none⟩,false),(⟨none,.store 3 (.tmp 84) (.tmp 79),none⟩,false),(⟨some 85,.idxAddr 3 (.tmp 74) (.tmp 75),none⟩,false),(⟨none,.store 3 (.tmp 85) (.tmp 83),none⟩,false)]) (.seq (.ops [⟨some 86,.mov (.tmp 13),none⟩,⟨some 10,.mov (.tmp 86),none⟩,⟨some 11,.mov (.const (.bool true)),none⟩]) .ret)) .skip)) (.seq (.draw [(⟨some 87,.mov (.tmp 0),none⟩,false),(⟨some 88,.mov (.tmp 12),none⟩,false),(⟨some 89,.mov (.tmp 0),none⟩,false),(⟨some 90,.mov (.tmp 13),none⟩,false),(⟨some 91,.mov (.tmp 0),none⟩,false),(⟨some 92,.mov (.tmp 13),none⟩,false),(⟨some 93,.idxAddr 3 (.tmp 91) (.tmp 92),none⟩,false),(⟨some 94,.loadN 3 (.tmp 93),none⟩,false),(⟨some 95,.mov (.tmp 0),none⟩,false),(⟨some 96,.mov (.tmp 12),none⟩,false),(⟨some 97,.idxAddr 3 (.tmp 95) (.tmp 96),none⟩,false),(⟨some 98,.loadN 3 (.tmp 97),none⟩,false),(⟨some 99,.idxAddr 3 (.tmp 87) (.tmp 88),none⟩,false),(⟨none,.store 3 (.tmp 99) (.tmp 94),none⟩,false),(⟨some 100,.idxAddr 3 (.tmp 89) (.tmp 90),none⟩,false),(⟨none,.store 3 (.tmp 100) (.tmp 98),none⟩,false)]) (.seq (.ops [⟨some 101,.mov (.tmp 12),none⟩,⟨some 102,.arith .add (.tmp 101) (.const (.int .i64 1)),none⟩,⟨some 12,.mov (.tmp 102),none⟩]) (.seq (.ops [⟨some 103,.mov (.tmp 13),none⟩,⟨some 104,.arith .sub (.tmp 103) (.const (.int .i64 1)),none⟩,⟨some 13,.mov (.tmp 104),none⟩]) (.seq (.block 4 (.loop (.block 5 (.seq (.block 6 (.loop (.seq (.seq (.draw [(⟨some 105,.mov (.tmp 12),none⟩,false),(⟨some 106,.mov (.tmp 13),none⟩,false),(⟨some 107,.cmp .leq (.tmp 105) (.tmp 106),none⟩,false),(⟨some 108,.mov (.tmp 107),none⟩,false),(⟨some 109,.mov (.tmp 4),some (108,true)⟩,false),(⟨some 110,.mov (.tmp 0),some (108,true)⟩,false),(⟨some 111,.mov (.tmp 12),some (108,true)⟩,false),(⟨some 112,.idxAddr 3 (.tmp 110) (.tmp 111),some (108,true)⟩,false),(⟨some 113,.loadN 3 (.tmp 112),some (108,true)⟩,false),(⟨some 114,.mov (.tmp 0),some (108,true)⟩,false),(⟨some 115,.mov (.tmp 1),some (108,true)⟩,false),(⟨some 116,.idxAddr 3 (.tmp 114) (.tmp 115),some (108,true)⟩,false),(⟨some 117,.loadN 3 (.tmp 116),some (108,true)⟩,false),(⟨some 118,.call (.tmp 109) [.tmp 113,.tmp 117],some (108,true)⟩,true),(⟨some 119,.cmp .lss (.tmp 118) (.const (.int .i64 0)),some (108,true)⟩,false),(⟨some 120,.pick (.tmp 108) (.tmp 119) (.const (.bool false)),none⟩,false)]) (.cond (.tmp 120) .skip (.exit 6))) (.block 7 (.ops [⟨some 121,.mov (.tmp 12),none⟩,⟨some 122,.arith .add (.tmp 121) (.const (.int .i64 1)),none⟩,⟨some 12,.mov (.tmp 122),none⟩]))))) (.seq (.block 8 (.loop (.seq (.seq (.draw [(⟨some 123,.mov (.tmp 12),none⟩,false),(⟨some 124,.mov (.tmp 13),none⟩,false),(⟨some 125,.cmp .leq (.tmp 123) (.tmp 124),none⟩,false),(⟨some 126,.mov (.tmp 125),none⟩,false),(⟨some 127,.mov (.tmp 4),some (126,true)⟩,false),(⟨some 128,.mov (.tmp 0),some (126,true)⟩,false),(⟨some 129,.mov (.tmp 13),some (126,true)⟩,false),(⟨some 130,.idxAddr 3 (.tmp 128) (.tmp 129),some (126,true)⟩,false),(⟨some 131,.loadN 3 (.tmp 130),some (126,true)⟩,false),(⟨some 132,.mov (.tmp 0),some (126,true)⟩,false),(⟨some 133,.mov (.tmp 1),some (126,true)⟩,false),(⟨some 134,.idxAddr 3 (.tmp 132) (.tmp 133),some (126,true)⟩,false),(⟨some 135,.loadN 3 (.tmp 134),some (126,true)⟩,false),(⟨some 136,.call (.tmp 127) [.tmp 131,.tmp 135],some (126,true)⟩,true),(⟨some 137,.cmp .lss (.tmp 136) (.const (.int .i64 0)),some (126,true)⟩,false),(⟨some 138,.not (.tmp 137),some (126,true)⟩,false),(⟨some 139,.pick (.tmp 126) (.tmp 138) (.const (.bool false)),none⟩,false)]) (.cond (.tmp 139) .skip (.exit 8))) (.block 9 (.ops [⟨some 140,.mov (.tmp 13),none⟩,⟨some 141,.arith .sub (.tmp 140) (.const (.int .i64 1)),none⟩,⟨some 13,.mov (.tmp 141),none⟩]))))) (.seq (.seq (.ops [⟨some 142,.mov (.tmp 12),none⟩,⟨some 143,.mov (.tmp 13),none⟩,⟨some 144,.cmp .gtr (.tmp 142) (.tmp 143),none⟩]) (.cond (.tmp 144) (.exit 4) .skip)) (.seq (.draw [(⟨some 145,.mov (.tmp 0),none⟩,false),(⟨some 146,.mov (.tmp 12),none⟩,false),(⟨some 147,.mov (.tmp 0),none⟩,false),(⟨some 148,.mov (.tmp 13),none⟩,false),(⟨some 149,.mov (.tmp 0),none⟩,false),(⟨some 150,.mov (.tmp 13),none⟩,false),(⟨some 151,.idxAddr 3 (.tmp 149) (.tmp 150),none⟩,false),(⟨some 152,.loadN 3 (.tmp 151),none⟩,false),(⟨some 153,.mov (.tmp 0),none⟩,false),(⟨some 154,.mov (.tmp 12),none⟩,false),(⟨some 155,.idxAddr 3 (.tmp 153) (.tmp 154),none⟩,false),(⟨some 156,.loadN 3 (.tmp 155),none⟩,false),(⟨some 157,.idxAddr 3 (.tmp 145) (.tmp 146),none⟩,false),(⟨none,.store 3 (.tmp 157) (.tmp 152),none⟩,false),(⟨some 158,.idxAddr 3 (.tmp 147) (.tmp 148),none⟩,false),(⟨none,.store 3 (.tmp 158) (.tmp 156),none⟩,false)]) (.seq (.ops [⟨some 159,.mov (.tmp 12),none⟩,⟨some 160,.arith .add (.tmp 159) (.const (.int .i64 1)),none⟩,⟨some 12,.mov (.tmp 160),none⟩]) (.ops [⟨some 161,.mov (.tmp 13),none⟩,⟨some 162,.arith .sub (.tmp 161) (.const (.int .i64 1)),none⟩,⟨some 13,.mov (.tmp 162),none⟩]))))))))) (.seq (.draw [(⟨some 163,.mov (.tmp 0),none⟩,false),(⟨some 164,.mov (.tmp 13),none⟩,false),(⟨some 165,.mov (.tmp 0),none⟩,false),(⟨some 166,.mov (.tmp 1),none⟩,false),(⟨some 167,.mov (.tmp 0),none⟩,false),(⟨some 168,.mov (.tmp 1),none⟩,false),(⟨some 169,.idxAddr 3 (.tmp 167) (.tmp 168),none⟩,false),(⟨some 170,.loadN 3 (.tmp 169),none⟩,false),(⟨some 171,.mov (.tmp 0),none⟩,false),(⟨some 172,.mov (.tmp 13),none⟩,false),(⟨some 173,.idxAddr 3 (.tmp 171) (.tmp 172),none⟩,false),(⟨some 174,.loadN 3 (.tmp 173),none⟩,false),(⟨some 175,.idxAddr 3 (.tmp 163) (.tmp 164),none⟩,false),(⟨none,.store 3 (.tmp 175) (.tmp 170),none⟩,false),(⟨some 176,.idxAddr 3 (.tmp 165) (.tmp 166),none⟩,false),(⟨none,.store 3 (.tmp 176) (.tmp 174),none⟩,false)]) (.seq (.ops [⟨some 177,.mov (.tmp 13),none⟩,⟨some 10,.mov (.tmp 177),none⟩,⟨some 11,.mov (.const (.bool false)),none⟩]) .ret)))))))))))),178,[.tmp 10,.tmp 11]⟩
theorem c92 : compileFn Go.Proofs.Tryz.prog Go.Proofs.Tryz.f92 = some R92 := by kernel_rfl
def R93 : RFunc :=
  ⟨(.seq (.ops [⟨some 4,.mov (.const (.int .i64 0)),none⟩]) (.seq (.seq (.ops [⟨some 6,.mov (.tmp 0),none⟩,⟨some 7,.len (.tmp 6),none⟩,⟨some 8,.mov (.const (.int .i64 0)),none⟩]) (.block 0 (.loop (.seq (.ops [⟨some 9,.cmp .lss (.tmp 8) (.tmp 7),none⟩]) (.seq (.cond (.tmp 9) .skip (.exit 0)) (.seq (.block 1 (.seq (.ops [⟨some 10,.mov (.tmp 8),none⟩,⟨some 5,.mov (.tmp 10),none⟩]) (.seq (.ops [⟨some 11,.mov (.tmp 1),none⟩,⟨some 12,.mov (.tmp 0),none⟩,⟨some 13,.mov (.tmp 5),none⟩,⟨some 14,.idxAddr 3 (.tmp 12) (.tmp 13),none⟩,⟨some 15,.loadN 3 (.tmp 14),none⟩,⟨some 16,.call (.tmp 11) [.tmp 15],none⟩]) (.cond (.tmp 16) (.seq (.ops [⟨some 17,.mov (.tmp 5),none⟩,⟨some 4,.mov (.tmp 17),none⟩]) .ret) .skip)))) (.ops [⟨some 18,.arith .add (.tmp 8) (.const (.int .i64 1)),none⟩,⟨some 8,.mov (.tmp 18),none⟩]))))))) (.seq (.ops [⟨some 4,.mov (.const (.int .i64 (-1))),none⟩]) .ret))),19,[.tmp 4]⟩
theorem c93 : compileFn Go.Proofs.Tryz.prog Go.Proofs.Tryz.f93 = some R93 := by kernel_rfl
theorem n93 : R93.ntmps = 19 := rfl
theorem a93 {args : List Value} {H : AHeap} {Q : Value → AHeap → Prop} (h : AWP Go.Proofs.Tryz.prog none R93.code (Fin R93 Q) (args ++ List.replicate (R93.ntmps - args.length) undef) H) : ACall Go.Proofs.Tryz.prog 93 args H Q := acall_intro mo Go.Proofs.Tryz.func93 c93 h
def R94 : RFunc :=
  ⟨(.seq (.ops [⟨some 2,.box (.tmp 0),none⟩,⟨some 3,.mov (.const (.bool false)),none⟩]) (.seq (.ops [⟨some 4,.fieldAddr 0 (.tmp 2),none⟩,⟨some 5,.load (.tmp 4),none⟩,⟨some 6,.load (.tmp 1),none⟩,⟨some 7,.strOp .eql (.tmp 5) (.tmp 6),none⟩,⟨some 3,.mov (.tmp 7),none⟩]) .ret)),8,[.tmp 3]⟩
theorem c94 : compileFn Go.Proofs.Tryz.prog Go.Proofs.Tryz.f94 = some R94 := by kernel_rfl
theorem n94 : R94.ntmps = 8 := rfl
theorem a94 {args : List Value} {H : AHeap} {Q : Value → AHeap → Prop} (h : AWP Go.Proofs.Tryz.prog none R94.code (Fin R94 Q) (args ++ List.replicate (R94.ntmps - args.length) undef) H) : ACall Go.Proofs.Tryz.prog 94 args H Q := acall_intro mo Go.Proofs.Tryz.func94 c94 h
def R95 : RFunc :=
  ⟨(.seq (.ops [⟨some 3,.mov (.tmp 0),none⟩,⟨some 4,.len (.tmp 3),none⟩,⟨some 2,.mov (.tmp 4),none⟩]) (.ops [⟨some 5,.mov (.tmp 0),none⟩,⟨some 6,.mov (.tmp 2),none⟩,⟨some 7,.mov (.tmp 2),none⟩,⟨some 8,.conv .u64 (.tmp 7),none⟩,⟨some 9,.call (.func 57) [.tmp 8],none⟩,⟨some 10,.call (.func 104) [.tmp 5,.const (.int .i64 0),.tmp 6,.tmp 9],none⟩])),11,[]⟩
theorem c95 : compileFn Go.Proofs.Tryz.prog Go.Proofs.Tryz.f95 = some R95 := by kernel_rfl
theorem n95 : R95.ntmps = 11 := rfl
theorem a95 {args : List Value} {H : AHeap} {Q : Value → AHeap → Prop} (h : AWP Go.Proofs.Tryz.prog none R95.code (Fin R95 Q) (args ++ List.replicate (R95.ntmps - args.length) undef) H) : ACall Go.Proofs.Tryz.prog 95 args H Q := acall_intro mo Go.Proofs.Tryz.func95 c95 h
def R96 : RFunc :=
  ⟨(.seq (.ops [⟨some 12,.mov (.tmp 1),none⟩,⟨some 10,.mov (.tmp 12),none⟩]) (.block 0 (.loop (.block 1 (.seq (.ops [⟨some 13,.mov (.tmp 10),none⟩,⟨some 14,.arith .mul (.const (.int .i64 2)) (.tmp 13),none⟩,⟨some 15,.arith .add (.tmp 14) (.const (.int .i64 1)),none⟩,⟨some 11,.mov (.tmp 15),none⟩]) (.seq (.seq (.ops [⟨some 16,.mov (.tmp 11),none⟩,⟨some 17,.mov (.tmp 2),none⟩,⟨some 18,.cmp .geq (.tmp 16) (.tmp 17),none⟩]) (.cond (.tmp 18) (.exit 0) .skip)) (.seq (.seq (.draw [(⟨some 19,.mov (.tmp 11),none⟩,false),(⟨some 20,.arith .add (.tmp 19) (.const (.int .i64 1)),none⟩,false),(⟨some 21,.mov (.tmp 2),none⟩,false),(⟨some 22,.cmp .lss (.tmp 20) (.tmp 21),none⟩,false),(⟨some 23,.mov (.tmp 22),none⟩,false),(⟨some 24,.mov (.tmp 4),some (23,true)⟩,false),(⟨some 25,.mov (.tmp 0),some (23,true)⟩,false),(⟨some 26,.mov (.tmp 3),some (23,true)⟩,false),(⟨some 27,.mov (.tmp 11),some (23,true)⟩,false),(⟨some 28,.arith .add (.tmp 26) (.tmp 27),some (23,true)⟩,false),(⟨some 29,.idxAddr 1 (.tmp 25) (.tmp 28),some (23,true)⟩,false),(⟨some 30,.load (.tmp 29),some (23,true)⟩,false),(⟨some 31,.mov (.tmp 0),some (23,true)⟩,false),(⟨some 32,.mov (.tmp 3),some (23,true)⟩,false),(⟨some 33,.mov (.tmp 11),some (23,true)⟩,false),(⟨some 34,.arith .add (.tmp 32) (.tmp 33),some (23,true)⟩,false),(⟨some 35,.arith .add (.tmp 34) (.const (.int .i64 1)),some (23,true)⟩,false),(⟨some 36,.idxAddr 1 (.tmp 31) (.tmp 35),some (23,true)⟩,false),(⟨some 37,.load (.tmp 36),some (23,true)⟩,false),(⟨some 38,.call (.tmp 24) [.tmp 30,.tmp 37],some (23,true)⟩,true),(⟨some 39,.cmp .lss (.tmp 38) (.const (.int .i64 0)),some (23,true)⟩,false),(⟨some 40,.pick (.tmp 23) (.tmp 39) (.const (.bool false)),none⟩,false)]) (.cond (.tmp 40) (.ops [⟨some 41,.mov (.tmp 11),none⟩,⟨some 42,.arith .add (.tmp 41) (.const (.int .i64 1)),none⟩,⟨some 11,.mov (.tmp 42),none⟩]) .skip)) (.seq (.seq (.draw [(⟨some 43,.mov (.tmp 4),none⟩,false),(⟨some 44,.mov (.tmp 0),none⟩,false),(⟨some 45,.mov (.tmp 3),none⟩,false),(⟨some 46,.mov (.tmp 10),none⟩,false),(⟨some 47,.arith .add (.tmp 45) (.tmp 46),none⟩,false),(⟨some 48,.idxAddr 1 (.tmp 44) (.tmp 47),none⟩,false),(⟨some 49,.load (.tmp 48),none⟩,false),(⟨some 50,.mov (.tmp 0),none⟩,false),(⟨some 51,.mov (.tmp 3),none⟩,false),(⟨some 52,.mov (.tmp 11),none⟩,false),(⟨some 53,.arith .add (.tmp 51) (.tmp 52),none⟩,false),(⟨some 54,.idxAddr 1 (.tmp 50) (.tmp 53),none⟩,false),(⟨some 55,.load (.tmp 54),none⟩,false),(⟨some 56,.call (.tmp 43) [.tmp 49,.tmp 55],none⟩,true),(⟨some 57,.cmp .lss (.tmp 56) (.const (.int .i64 0)),none⟩,false),(⟨some 58,.not (.tmp 57),none⟩,false)]) (.cond (.tmp 58) .ret .skip)) (.seq (.draw [(⟨some 59,.mov (.tmp 0),none⟩,false),(⟨some 60,.mov (.tmp 3),none⟩,false),(⟨some 61,.mov (.tmp 10),none⟩,false),(⟨some 62,.arith .add (.tmp 60) (.tmp 61),none⟩,false),(⟨some 63,.mov (.tmp 0),none⟩,false),(⟨some 64,.mov (.tmp 3),none⟩,false),(⟨some 65,.mov (.tmp 11),none⟩,false),(⟨some 66,.arith .add (.tmp 64) (.tmp 65),none⟩,false),(⟨some 67,.mov (.tmp 0),none⟩,false),(⟨some 68,.mov (.tmp 3),none⟩,false),(⟨some 69,.mov (.tmp 11),none⟩,false),(⟨some 70,.arith .add (.tmp 68) (.tmp 69),none⟩,false),(⟨some 71,.idxAddr 1 (.tmp 67) (.tmp 70),none⟩,false),(⟨some 72,.load (.tmp 71),none⟩,false),(⟨some 73,.mov (.tmp 0),none⟩,false),(⟨some 74,.mov (.tmp 3),none⟩,false),(⟨some 75,.mov (.tmp 10),none⟩,false),(⟨some 76,.arith .add (.tmp 74) (.tmp 75),none⟩,false),(⟨some 77,.idxAddr 1 (.tmp 73) (.tmp 76),none⟩,false),(⟨some 78,.load (.tmp 77),none⟩,false),(⟨some 79,.idxAddr 1 (.tmp 59) (.tmp 62),none⟩,false),(⟨none,.store 1 (.tmp 79) (.tmp 72),none⟩,false),(⟨some 80,.idxAddr 1 (.tmp 63) (.tmp 66),none⟩,false),(⟨none,.store 1 (.tmp 80) (.tmp 78),none⟩,false)]) (.ops [⟨some 81,.mov (.tmp 11),none⟩,⟨some 10,.mov (.tmp 81),none⟩])))))))))),82,[]⟩
theorem c96 : compileFn Go.Proofs.Tryz.prog Go.Proofs.Tryz.f96 = some R96 := by kernel_rfl
def R97 : RFunc :=
  ⟨(.seq (.ops [⟨some 2,.mov (.const (.int .u64 0)),none⟩]) (.seq (.ops [⟨some 3,.mov (.tmp 0),none⟩,⟨some 4,.conv .u64 (.tmp 3),none⟩,⟨some 5,.call (.func 57) [.tmp 4],none⟩,⟨some 6,.shl (.const (.int .u64 1)) (.tmp 5),none⟩,⟨some 2,.mov (.tmp 6),none⟩]) .ret)),7,[.tmp 2]⟩
theorem c97 : compileFn Go.Proofs.Tryz.prog Go.Proofs.Tryz.f97 = some R97 := by kernel_rfl
def R98 : RFunc :=
  ⟨(.seq (.ops [⟨some 2,.mov (.const (.int .u64 0)),none⟩]) (.seq (.draw [(⟨some 3,.mov (.tmp 0),none⟩,false),(⟨some 4,.nilCheck (.tmp 3),none⟩,false),(⟨some 5,.load (.tmp 4),none⟩,false),(⟨some 6,.mov (.tmp 0),none⟩,false),(⟨some 7,.nilCheck (.tmp 6),none⟩,false),(⟨some 8,.load (.tmp 7),none⟩,false),(⟨some 9,.shl (.tmp 8) (.const (.int .u64 13)),none⟩,false),(⟨some 10,.extract (.const (.chan none)) 0,none⟩,false),(⟨some 11,.nilCheck (.tmp 3),none⟩,false),(⟨none,.store 1 (.tmp 11) (.tmp 10),none⟩,false)]) (.seq (.draw [(⟨some 12,.mov (.tmp 0),none⟩,false),(⟨some 13,.nilCheck (.tmp 12),none⟩,false),(⟨some 14,.load (.tmp 13),none⟩,false),(⟨some 15,.mov (.tmp 0),none⟩,false),(⟨some 16,.nilCheck (.tmp 15),none⟩,false),(⟨some 17,.load (.tmp 16),none⟩,false),(⟨some 18,.shr (.tmp 17) (.const (.int .u64 7)),none⟩,false),(⟨some 19,.extract (.const (.chan none)) 0,none⟩,false),(⟨some 20,.nilCheck (.tmp 12),none⟩,false),(⟨none,.store 1 (.tmp 20) (.tmp 19),none⟩,false)]) (.seq (.draw [(⟨some 21,.mov (.tmp 0),none⟩,false),(⟨some 22,.nilCheck (.tmp 21),none⟩,false),(⟨some 23,.load (.tmp 22),none⟩,false),(⟨some 24,.mov (.tmp 0),none⟩,false),(⟨some 25,.nilCheck (.tmp 24),none⟩,false),(⟨some 26,.load (.tmp 25),none⟩,false),(⟨some 27,.shl (.tmp 26) (.const (.int .u64 17)),none⟩,false),(⟨some 28,.extract (.const (.chan none)) 0,none⟩,false),(⟨some 29,.nilCheck (.tmp 21),none⟩,false),(⟨none,.store 1 (.tmp 29) (.tmp 28),none⟩,false)]) (.seq (.ops [⟨some 30,.mov (.tmp 0),none⟩,⟨some 31,.nilCheck (.tmp 30),none⟩,⟨some 32,.load (.tmp 31),none⟩,⟨some 2,.mov (.tmp 32),none⟩]) .ret))))),33,[.tmp 2]⟩
theorem c98 : compileFn Go.Proofs.Tryz.prog Go.Proofs.Tryz.f98 = some R98 := by kernel_rfl
def R99 : RFunc :=
  ⟨(.seq (.ops [⟨some 8,.mov (.const (.int .i64 0)),none⟩]) (.seq (.ops [⟨some 9,.mov (.tmp 0),none⟩,⟨some 10,.mov (.tmp 1),none⟩,⟨some 11,.arith .sub (.tmp 10) (.const (.int .i64 1)),none⟩,⟨some 12,.mov (.tmp 1),none⟩,⟨some 13,.mov (.tmp 1),none⟩,⟨some 14,.arith .add (.tmp 13) (.const (.int .i64 1)),none⟩,⟨some 15,.mov (.tmp 2),none⟩,⟨some 16,.mov (.tmp 3),none⟩,⟨some 17,.call (.func 100) [.tmp 9,.tmp 11,.tmp 12,.tmp 14,.tmp 15,.tmp 16],none⟩,⟨some 8,.mov (.tmp 17),none⟩]) .ret)),18,[.tmp 8]⟩
theorem c99 : compileFn Go.Proofs.Tryz.prog Go.Proofs.Tryz.f99 = some R99 := by kernel_rfl
def R100 : RFunc :=
  ⟨(.seq (.ops [⟨some 12,.mov (.const (.int .i64 0)),none⟩]) (.seq (.ops [⟨some 14,.mov (.tmp 0),none⟩,⟨some 15,.mov (.tmp 1),none⟩,⟨some 16,.mov (.tmp 2),none⟩,⟨some 17,.mov (.tmp 4),none⟩,⟨some 18,.mov (.tmp 5),none⟩,⟨some 19,.call (.func 105) [.tmp 14,.tmp 15,.tmp 16,.tmp 17,.tmp 18],none⟩,⟨some 13,.mov (.tmp 19),none⟩,⟨some 20,.extract (.tmp 13) 0,none⟩,⟨some 21,.extract (.tmp 13) 1,none⟩,⟨some 1,.mov (.tmp 20),none⟩,⟨some 2,.mov (.tmp 21),none⟩]) (.seq (.ops [⟨some 23,.mov (.tmp 0),none⟩,⟨some 24,.mov (.tmp 2),none⟩,⟨some 25,.mov (.tmp 3),none⟩,⟨some 26,.mov (.tmp 4),none⟩,⟨some 27,.mov (.tmp 5),none⟩,⟨some 28,.call (.func 105) [.tmp 23,.tmp 24,.tmp 25,.tmp 26,.tmp 27],none⟩,⟨some 22,.mov (.tmp 28),none⟩,⟨some 29,.extract (.tmp 22) 0,none⟩,⟨some 30,.extract (.tmp 22) 1,none⟩,⟨some 2,.mov (.tmp 29),none⟩,⟨some 3,.mov (.tmp 30),none⟩]) (.seq (.ops [⟨some 32,.mov (.tmp 0),none⟩,⟨some 33,.mov (.tmp 1),none⟩,⟨some 34,.mov (.tmp 2),none⟩,⟨some 35,.mov (.tmp 4),none⟩,⟨some 36,.mov (.tmp 5),none⟩,⟨some 37,.call (.func 105) [.tmp 32,.tmp 33,.tmp 34,.tmp 35,.tmp 36],none⟩,⟨some 31,.mov (.tmp 37),none⟩,⟨some 38,.extract (.tmp 31) 0,none⟩,⟨some 39,.extract (.tmp 31) 1,none⟩,⟨some 1,.mov (.tmp 38),none⟩,⟨some 2,.mov (.tmp 39),none⟩]) (.seq (.ops [⟨some 40,.mov (.tmp 2),none⟩,⟨some 12,.mov (.tmp 40),none⟩]) .ret))))),41,[.tmp 12]⟩
theorem c100 : compileFn Go.Proofs.Tryz.prog Go.Proofs.Tryz.f100 = some R100 := by kernel_rfl
def R101 : RFunc :=
  ⟨(.seq (.ops [⟨some 12,.mov (.tmp 1),none⟩,⟨some 10,.mov (.tmp 12),none⟩]) (.block 0 (.loop (.block 1 (.seq (.ops [⟨some 13,.mov (.tmp 10),none⟩,⟨some 14,.arith .mul (.const (.int .i64 2)) (.tmp 13),none⟩,⟨some 15,.arith .add (.tmp 14) (.const (.int .i64 1)),none⟩,⟨some 11,.mov (.tmp 15),none⟩]) (.seq (.seq (.ops [⟨some 16,.mov (.tmp 11),none⟩,⟨some 17,.mov (.tmp 2),none⟩,⟨some 18,.cmp .geq (.tmp 16) (.tmp 17),none⟩]) (.cond (.tmp 18) (.exit 0) .skip)) (.seq (.seq (.draw [(⟨some 19,.mov (.tmp 11),none⟩,false),(⟨some 20,.arith .add (.tmp 19) (.const (.int .i64 1)),none⟩,false),(⟨some 21,.mov (.tmp 2),none⟩,false),(⟨some 22,.cmp .lss (.tmp 20) (.tmp 21),none⟩,false),(⟨some 23,.mov (.tmp 22),none⟩,false),(⟨some 24,.mov (.tmp 4),some (23,true)⟩,false),(⟨some 25,.mov (.tmp 0),some (23,true)⟩,false),(⟨some 26,.mov (.tmp 3),some (23,true)⟩,false),(⟨some 27,.mov (.tmp 11),some (23,true)⟩,false),(⟨some 28,.arith .add (.tmp 26) (.tmp 27),some (23,true)⟩,false),(⟨some 29,.idxAddr 3 (.tmp 25) (.tmp 28),some (23,true)⟩,false),(⟨some 30,.loadN 3 (.tmp 29),some (23,true)⟩,false),(⟨some 31,.mov (.tmp 0),some (23,true)⟩,false),(⟨some 32,.mov (.tmp 3),some (23,true)⟩,false),(⟨some 33,.mov (.tmp 11),some (23,true)⟩,false),(⟨some 34,.arith .add (.tmp 32) (.tmp 33),some (23,true)⟩,false),(⟨some 35,.arith .add (.tmp 34) (.const (.int .i64 1)),some (23,true)⟩,false),(⟨some 36,.idxAddr 3 (.tmp 31) (.tmp 35),some (23,true)⟩,false),(⟨some 37,.loadN 3 (.tmp 36),some (23,true)⟩,false),(⟨some 38,.call (.tmp 24) [.tmp 30,.tmp 37],some (23,true)⟩,true),(⟨some 39,.cmp .lss (.tmp 38) (.const (.int .i64 0)),some (23,true)⟩,false),(⟨some 40,.pick (.tmp 23) (.tmp 39) (.const (.bool false)),none⟩,false)]) (.cond (.tmp 40) (.ops [⟨some 41,.mov (.tmp 11),none⟩,⟨some 42,.arith .add (.tmp 41) (.const (.int .i64 1)),none⟩,⟨some 11,.mov (.tmp 42),none⟩]) .skip)) (.seq (.seq (.draw [(⟨some 43,.mov (.tmp 4),none⟩,false),(⟨some 44,.mov (.tmp 0),none⟩,false),(⟨some 45,.mov (.tmp 3),none⟩,false),(⟨some 46,.mov (.tmp 10),none⟩,false),(⟨some 47,.arith .add (.tmp 45) (.tmp 46),none⟩,false),(⟨some 48,.idxAddr 3 (.tmp 44) (.tmp 47),none⟩,false),(⟨some 49,.loadN 3 (.tmp 48),none⟩,false),(⟨some 50,.mov (.tmp 0),none⟩,false),(⟨some 51,.mov (.tmp 3),none⟩,false),(⟨some 52,.mov (.tmp 11),none⟩,false),(⟨some 53,.arith .add (.tmp 51) (.tmp 52),none⟩,false),(⟨some 54,.idxAddr 3 (.tmp 50) (.tmp 53),none⟩,false),(⟨some 55,.loadN 3 (.tmp 54),none⟩,false),(⟨some 56,.call (.tmp 43) [.tmp 49,.tmp 55],none⟩,true),(⟨some 57,.cmp .lss (.tmp 56) (.const (.int .i64 0)),none⟩,false),(⟨some 58,.not (.tmp 57),none⟩,false)]) (.cond (.tmp 58) .ret .skip)) (.seq (.draw [(⟨some 59,.mov (.tmp 0),none⟩,false),(⟨some 60,.mov (.tmp 3),none⟩,false),(⟨some 61,.mov (.tmp 10),none⟩,false),(⟨some 62,.arith .add (.tmp 60) (.tmp 61),none⟩,false),(⟨some 63,.mov (.tmp 0),none⟩,false),(⟨some 64,.mov (.tmp 3),none⟩,false),(⟨some 65,.mov (.tmp 11),none⟩,false),(⟨some 66,.arith .add (.tmp 64) (.tmp 65),none⟩,false),(⟨some 67,.mov (.tmp 0),none⟩,false),(⟨some 68,.mov (.tmp 3),none⟩,false),(⟨some 69,.mov (.tmp 11),none⟩,false),(⟨some 70,.arith .add (.tmp 68) (.tmp 69),none⟩,false),(⟨some 71,.idxAddr 3 (.tmp 67) (.tmp 70),none⟩,false),(⟨some 72,.loadN 3 (.tmp 71),none⟩,false),(⟨some 73,.mov (.tmp 0),none⟩,false),(⟨some 74,.mov (.tmp 3),none⟩,false),(⟨some 75,.mov (.tmp 10),none⟩,false),(⟨some 76,.arith .add (.tmp 74) (.tmp 75),none⟩,false),(⟨some 77,.idxAddr 3 (.tmp 73) (.tmp 76),none⟩,false),(⟨some 78,.loadN 3 (.tmp 77),none⟩,false),(⟨some 79,.idxAddr 3 (.tmp 59) (.tmp 62),none⟩,false),(⟨none,.store 3 (.tmp 79) (.tmp 72),none⟩,false),(⟨some 80,.idxAddr 3 (.tmp 63) (.tmp 66),none⟩,false),(⟨none,.store 3 (.tmp 80) (.tmp 78),none⟩,false)]) (.ops [⟨some 81,.mov (.tmp 11),none⟩,⟨some 10,.mov (.tmp 81),none⟩])))))))))),82,[]⟩
theorem c101 : compileFn Go.Proofs.Tryz.prog Go.Proofs.Tryz.f101 = some R101 := by kernel_rfl
def R102 : RFunc :=
  ⟨(.seq (.ops [⟨some 8,.mov (.const (.int .i64 0)),none⟩]) (.seq (.ops [⟨some 9,.mov (.tmp 0),none⟩,⟨some 10,.mov (.tmp 1),none⟩,⟨some 11,.arith .sub (.tmp 10) (.const (.int .i64 1)),none⟩,⟨some 12,.mov (.tmp 1),none⟩,⟨some 13,.mov (.tmp 1),none⟩,⟨some 14,.arith .add (.tmp 13) (.const (.int .i64 1)),none⟩,⟨some 15,.mov (.tmp 2),none⟩,⟨some 16,.mov (.tmp 3),none⟩,⟨some 17,.call (.func 103) [.tmp 9,.tmp 11,.tmp 12,.tmp 14,.tmp 15,.tmp 16],none⟩,⟨some 8,.mov (.tmp 17),none⟩]) .ret)),18,[.tmp 8]⟩
theorem c102 : compileFn Go.Proofs.Tryz.prog Go.Proofs.Tryz.f102 = some R102 := by kernel_rfl
def R103 : RFunc :=
  ⟨(.seq (.ops [⟨some 12,.mov (.const (.int .i64 0)),none⟩]) (.seq (.ops [⟨some 14,.mov (.tmp 0),none⟩,⟨some 15,.mov (.tmp 1),none⟩,⟨some 16,.mov (.tmp 2),none⟩,⟨some 17,.mov (.tmp 4),none⟩,⟨some 18,.mov (.tmp 5),none⟩,⟨some 19,.call (.func 106) [.tmp 14,.tmp 15,.tmp 16,.tmp 17,.tmp 18],none⟩,⟨some 13,.mov (.tmp 19),none⟩,⟨some 20,.extract (.tmp 13) 0,none⟩,⟨some 21,.extract (.tmp 13) 1,none⟩,⟨some 1,.mov (.tmp 20),none⟩,⟨some 2,.mov (.tmp 21),none⟩]) (.seq (.ops [⟨some 23,.mov (.tmp 0),none⟩,⟨some 24,.mov (.tmp 2),none⟩,⟨some 25,.mov (.tmp 3),none⟩,⟨some 26,.mov (.tmp 4),none⟩,⟨some 27,.mov (.tmp 5),none⟩,⟨some 28,.call (.func 106) [.tmp 23,.tmp 24,.tmp 25,.tmp 26,.tmp 27],none⟩,⟨some 22,.mov (.tmp 28),none⟩,⟨some 29,.extract (.tmp 22) 0,none⟩,⟨some 30,.extract (.tmp 22) 1,none⟩,⟨some 2,.mov (.tmp 29),none⟩,⟨some 3,.mov (.tmp 30),none⟩]) (.seq (.ops [⟨some 32,.mov (.tmp 0),none⟩,⟨some 33,.mov (.tmp 1),none⟩,⟨some 34,.mov (.tmp 2),none⟩,⟨some 35,.mov (.tmp 4),none⟩,⟨some 36,.mov (.tmp 5),none⟩,⟨some 37,.call (.func 106) [.tmp 32,.tmp 33,.tmp 34,.tmp 35,.tmp 36],none⟩,⟨some 31,.mov (.tmp 37),none⟩,⟨some 38,.extract (.tmp 31) 0,none⟩,⟨some 39,.extract (.tmp 31) 1,none⟩,⟨some 1,.mov (.tmp 38),none⟩,⟨some 2,.mov (.tmp 39),none⟩]) (.seq (.ops [⟨some 40,.mov (.tmp 2),none⟩,⟨some 12,.mov (.tmp 40),none⟩]) .ret))))),41,[.tmp 12]⟩
theorem c103 : compileFn Go.Proofs.Tryz.prog Go.Proofs.Tryz.f103 = some R103 := by kernel_rfl
def R104 : RFunc :=
  ⟨(.seq (.ops [⟨some 8,.mov (.const (.bool true)),none⟩]) (.seq (.ops [⟨some 9,.mov (.const (.bool true)),none⟩]) (.block 0 (.loop (.block 1 (.seq (.ops [⟨some 19,.mov (.tmp 2),none⟩,⟨some 20,.mov (.tmp 1),none⟩,⟨some 21,.arith .sub (.tmp 19) (.tmp 20),none⟩,⟨some 10,.mov (.tmp 21),none⟩]) (.seq (.seq (.ops [⟨some 22,.mov (.tmp 10),none⟩,⟨some 23,.cmp .leq (.tmp 22) (.const (.int .i64 12)),none⟩]) (.cond (.tmp 23) (.seq (.ops [⟨some 24,.mov (.tmp 0),none⟩,⟨some 25,.mov (.tmp 1),none⟩,⟨some 26,.mov (.tmp 2),none⟩,⟨some 27,.call (.func 107) [.tmp 24,.tmp 25,.tmp 26],none⟩]) .ret) .skip)) (.seq (.seq (.ops [⟨some 28,.mov (.tmp 3),none⟩,⟨some 29,.cmp .eql (.tmp 28) (.const (.int .i64 0)),none⟩]) (.cond (.tmp 29) (.seq (.ops [⟨some 30,.mov (.tmp 0),none⟩,⟨some 31,.mov (.tmp 1),none⟩,⟨some 32,.mov (.tmp 2),none⟩,⟨some 33,.call (.func 108) [.tmp 30,.tmp 31,.tmp 32],none⟩]) .ret) .skip)) (.seq (.seq (.ops [⟨some 34,.mov (.tmp 8),none⟩,⟨some 35,.not (.tmp 34),none⟩]) (.cond (.tmp 35) (.seq (.ops [⟨some 36,.mov (.tmp 0),none⟩,⟨some 37,.mov (.tmp 1),none⟩,⟨some 38,.mov (.tmp 2),none⟩,⟨some 39,.call (.func 109) [.tmp 36,.tmp 37,.tmp 38],none⟩]) (.ops [⟨some 40,.mov (.tmp 3),none⟩,⟨some 41,.arith .sub (.tmp 40) (.const (.int .i64 1)),none⟩,⟨some 3,.mov (.tmp 41),none⟩])) .skip)) (.seq (.ops [⟨some 43,.mov (.tmp 0),none⟩,⟨some 44,.mov (.tmp 1),none⟩,⟨some 45,.mov (.tmp 2),none⟩,⟨some 46,.call (.func 110) [.tmp 43,.tmp 44,.tmp 45],none⟩,⟨some 42,.mov (.tmp 46),none⟩,⟨some 47,.extract (.tmp 42) 0,none⟩,⟨some 48,.extract (.tmp 42) 1,none⟩,⟨some 11,.mov (.tmp 47),none⟩,⟨some 12,.mov (.tmp 48),none⟩]) (.seq (.seq (.ops [⟨some 49,.mov (.tmp 12),none⟩,⟨some 50,.cmp .eql (.tmp 49) (.const (.int .i64 2)),none⟩]) (.cond (.tmp 50) (.seq (.ops [⟨some 51,.mov (.tmp 0),none⟩,⟨some 52,.mov (.tmp 1),none⟩,⟨some 53,.mov (.tmp 2),none⟩,⟨some 54,.call (.func 111) [.tmp 51,.tmp 52,.tmp 53],none⟩]) (.seq (.ops [⟨some 55,.mov (.tmp 2),none⟩,⟨some 56,.arith .sub (.tmp 55) (.const (.int .i64 1)),none⟩,⟨some 57,.mov (.tmp 11),none⟩,⟨some 58,.mov (.tmp 1),none⟩,⟨some 59,.arith .sub (.tmp 57) (.tmp 58),none⟩,⟨some 60,.arith .sub (.tmp 56) (.tmp 59),none⟩,⟨some 11,.mov (.tmp 60),none⟩]) (.ops [⟨some 12,.mov (.const (.int .i64 1)),none⟩]))) .skip)) (.seq (.seq (.ops [⟨some 61,.mov (.tmp 8),none⟩,⟨some 62,.mov (.tmp 61),none⟩,⟨some 63,.mov (.tmp 9),some (62,true)⟩,⟨some 64,.pick (.tmp 62) (.tmp 63) (.const (.bool false)),none⟩,⟨some 65,.mov (.tmp 64),none⟩,⟨some 66,.mov (.tmp 12),some (65,true)⟩,⟨some 67,.cmp .eql (.tmp 66) (.const (.int .i64 1)),some (65,true)⟩,⟨some 68,.pick (.tmp 65) (.tmp 67) (.const (.bool false)),none⟩]) (.cond (.tmp 68) (.seq (.ops [⟨some 69,.mov (.tmp 0),none⟩,⟨some 70,.mov (.tmp 1),none⟩,⟨some 71,.mov (.tmp 2),none⟩,⟨some 72,.call (.func 112) [.tmp 69,.tmp 70,.tmp 71],none⟩]) (.cond (.tmp 72) .ret .skip)) .skip)) (.seq (.seq (.draw [(⟨some 73,.mov (.tmp 1),none⟩,false),(⟨some 74,.cmp .gtr (.tmp 73) (.const (.int .i64 0)),none⟩,false),(⟨some 75,.mov (.tmp 74),none⟩,false),(⟨some 76,.mov (.tmp 0),some (75,true)⟩,false),(⟨some 77,.mov (.tmp 1),some (75,true)⟩,false),(⟨some 78,.arith .sub (.tmp 77) (.const (.int .i64 1)),some (75,true)⟩,false),(⟨some 79,.idxAddr 1 (.tmp 76) (.tmp 78),some (75,true)⟩,false),(⟨some 80,.load (.tmp 79),some (75,true)⟩,false),(⟨some 81,.mov (.tmp 0),some (75,true)⟩,false),(⟨some 82,.mov (.tmp 11),some (75,true)⟩,false),(⟨some 83,.idxAddr 1 (.tmp 81) (.tmp 82),some (75,true)⟩,false),(⟨some 84,.load (.tmp 83),some (75,true)⟩,false),(⟨some 85,.call (.func 113) [.tmp 80,.tmp 84],some (75,true)⟩,false),(⟨some 86,.not (.tmp 85),some (75,true)⟩,false),(⟨some 87,.pick (.tmp 75) (.tmp 86) (.const (.bool false)),none⟩,false)]) (.cond (.tmp 87) (.seq (.ops [⟨some 88,.mov (.tmp 0),none⟩,⟨some 89,.mov (.tmp 1),none⟩,⟨some 90,.mov (.tmp 2),none⟩,⟨some 91,.mov (.tmp 11),none⟩,⟨some 92,.call (.func 114) [.tmp 88,.tmp 89,.tmp 90,.tmp 91],none⟩,⟨some 13,.mov (.tmp 92),none⟩]) (.seq (.ops [⟨some 93,.mov (.tmp 13),none⟩,⟨some 1,.mov (.tmp 93),none⟩]) (.exit 1))) .skip)) (.seq (.ops [⟨some 95,.mov (.tmp 0),none⟩,⟨some 96,.mov (.tmp 1),none⟩,⟨some 97,.mov (.tmp 2),none⟩,⟨some 98,.mov (.tmp 11),none⟩,⟨some 99,.call (.func 115) [.tmp 95,.tmp 96,.tmp 97,.tmp 98],none⟩,⟨some 94,.mov (.tmp 99),none⟩,⟨some 100,.extract (.tmp 94) 0,none⟩,⟨some 101,.extract (.tmp 94) 1,none⟩,⟨some 14,.mov (.tmp 100),none⟩,⟨some 15,.mov (.tmp 101),none⟩]) (.seq (.ops [⟨some 102,.mov (.tmp 15),none⟩,⟨some 9,.mov (.tmp 102),none⟩]) (.seq (.ops [⟨some 103,.mov (.tmp 14),none⟩,⟨some 104,.mov (.tmp 1),none⟩,⟨some 105,.arith .sub (.tmp 103) (.tmp 104),none⟩,⟨some 106,.mov (.tmp 2),none⟩,⟨some 107,.mov (.tmp 14),none⟩,⟨some 108,.arith .sub (.tmp 106) (.tmp 107),none⟩,⟨some 16,.mov (.tmp 105),none⟩,⟨some 17,.mov (.tmp 108),none⟩]) (.seq (.ops [⟨some 109,.mov (.tmp 10),none⟩,⟨some 110,.arith .quo (.tmp 109) (.const (.int .i64 8)),none⟩,⟨some 18,.mov (.tmp 110),none⟩]) (.seq (.ops [⟨some 111,.mov (.tmp 16),none⟩,⟨some 112,.mov (.tmp 17),none⟩,⟨some 113,.cmp .lss (.tmp 111) (.tmp 112),none⟩]) (.cond (.tmp 113) (.seq (.ops [⟨some 114,.mov (.tmp 16),none⟩,⟨some 115,.mov (.tmp 18),none⟩,⟨some 116,.cmp .geq (.tmp 114) (.tmp 115),none⟩,⟨some 8,.mov (.tmp 116),none⟩]) (.seq (.ops [⟨some 117,.mov (.tmp 0),none⟩,⟨some 118,.mov (.tmp 1),none⟩,⟨some 119,.mov (.tmp 14),none⟩,⟨some 120,.mov (.tmp 3),none⟩,⟨some 121,.call (.func 104) [.tmp 117,.tmp 118,.tmp 119,.tmp 120],none⟩]) (.ops [⟨some 122,.mov (.tmp 14),none⟩,⟨some 123,.arith .add (.tmp 122) (.const (.int .i64 1)),none⟩,⟨some 1,.mov (.tmp 123),none⟩]))) (.seq (.ops [⟨some 124,.mov (.tmp 17),none⟩,⟨some 125,.mov (.tmp 18),none⟩,⟨some 126,.cmp .geq (.tmp 124) (.tmp 125),none⟩,⟨some 8,.mov (.tmp 126),none⟩]) (.seq (.ops [⟨some 127,.mov (.tmp 0),none⟩,⟨some 128,.mov (.tmp 14),none⟩,⟨some 129,.arith .add (.tmp 128) (.const (.int .i64 1)),none⟩,⟨some 130,.mov (.tmp 2),none⟩,⟨some 131,.mov (.tmp 3),none⟩,⟨some 132,.call (.func 104) [.tmp 127,.tmp 129,.tmp 130,.tmp 131],none⟩]) (.ops [⟨some 133,.mov (.tmp 14),none⟩,⟨some 2,.mov (.tmp 133),none⟩])))))))))))))))))))))),134,[]⟩
theorem c104 : compileFn Go.Proofs.Tryz.prog Go.Proofs.Tryz.f104 = some R104 := by kernel_rfl
theorem n104 : R104.ntmps = 134 := rfl
theorem a104 {args : List Value} {H : AHeap} {Q : Value → AHeap → Prop} (h : AWP Go.Proofs.Tryz.prog none R104.code (Fin R104 Q) (args ++ List.replicate (R104.ntmps - args.length) undef) H) : ACall Go.Proofs.Tryz.prog 104 args H Q := acall_intro mo Go.Proofs.Tryz.func104 c104 h
def R105 : RFunc :=
  ⟨(.seq (.ops [⟨some 10,.mov (.const (.int .i64 0)),none⟩,⟨some 11,.mov (.const (.int .i64 0)),none⟩]) (.seq (.seq (.draw [(⟨some 12,.mov (.tmp 4),none⟩,false),(⟨some 13,.mov (.tmp 0),none⟩,false),(⟨some 14,.mov (.tmp 2),none⟩,false),(⟨some 15,.idxAddr 1 (.tmp 13) (.tmp 14),none⟩,false),(⟨some 16,.load (.tmp 15),none⟩,false),(⟨some 17,.mov (.tmp 0),none⟩,false),(⟨some 18,.mov (.tmp 1),none⟩,false),(⟨some 19,.idxAddr 1 (.tmp 17) (.tmp 18),none⟩,false),(⟨some 20,.load (.tmp 19),none⟩,false),(⟨some 21,.call (.tmp 12) [.tmp 16,.tmp 20],none⟩,true),(⟨some 22,.cmp .lss (.tmp 21) (.const (.int .i64 0)),none⟩,false)]) (.cond (.tmp 22) (.seq (.ops [⟨some 23,.mov (.tmp 3),none⟩,⟨some 24,.nilCheck (.tmp 23),none⟩,⟨some 25,.load (.tmp 24),none⟩,⟨some 26,.arith .add (.tmp 25) (.const (.int .i64 1)),none⟩,⟨some 27,.nilCheck (.tmp 23),none⟩,⟨none,.store 1 (.tmp 27) (.tmp 26),none⟩]) (.seq (.ops [⟨some 28,.mov (.tmp 2),none⟩,⟨some 29,.mov (.tmp 1),none⟩,⟨some 10,.mov (.tmp 28),none⟩,⟨some 11,.mov (.tmp 29),none⟩]) .ret)) .skip)) (.seq (.ops [⟨some 30,.mov (.tmp 1),none⟩,⟨some 31,.mov (.tmp 2),none⟩,⟨some 10,.mov (.tmp 30),none⟩,⟨some 11,.mov (.tmp 31),none⟩]) .ret))),32,[.tmp 10,.tmp 11]⟩
theorem c105 : compileFn Go.Proofs.Tryz.prog Go.Proofs.Tryz.f105 = some R105 := by kernel_rfl
def R106 : RFunc :=
  ⟨(.seq (.ops [⟨some 10,.mov (.const (.int .i64 0)),none⟩,⟨some 11,.mov (.const (.int .i64 0)),none⟩]) (.seq (.seq (.draw [(⟨some 12,.mov (.tmp 4),none⟩,false),(⟨some 13,.mov (.tmp 0),none⟩,false),(⟨some 14,.mov (.tmp 2),none⟩,false),(⟨some 15,.idxAddr 3 (.tmp 13) (.tmp 14),none⟩,false),(⟨some 16,.loadN 3 (.tmp 15),none⟩,false),(⟨some 17,.mov (.tmp 0),none⟩,false),(⟨some 18,.mov (.tmp 1),none⟩,false),(⟨some 19,.idxAddr 3 (.tmp 17) (.tmp 18),none⟩,false),(⟨some 20,.loadN 3 (.tmp 19),none⟩,false),(⟨some 21,.call (.tmp 12) [.tmp 16,.tmp 20],none⟩,true),(⟨some 22,.cmp .lss (.tmp 21) (.const (.int .i64 0)),none⟩,false)]) (.cond (.tmp 22) (.seq (.ops [⟨some 23,.mov (.tmp 3),none⟩,⟨some 24,.nilCheck (.tmp 23),none⟩,⟨some 25,.load (.tmp 24),none⟩,⟨some 26,.arith .add (.tmp 25) (.const (.int .i64 1)),none⟩,⟨some 27,.nilCheck (.tmp 23),none⟩,⟨none,.store 1 (.tmp 27) (.tmp 26),none⟩]) (.seq (.ops [⟨some 28,.mov (.tmp 2),none⟩,⟨some 29,.mov (.tmp 1),none⟩,⟨some 10,.mov (.tmp 28),none⟩,⟨some 11,.mov (.tmp 29),none⟩]) .ret)) .skip)) (.seq (.ops [⟨some 30,.mov (.tmp 1),none⟩,⟨some 31,.mov (.tmp 2),none⟩,⟨some 10,.mov (.tmp 30),none⟩,⟨some 11,.mov (.tmp 31),none⟩]) .ret))),32,[.tmp 10,.tmp 11]⟩
theorem c106 : compileFn Go.Proofs.Tryz.prog Go.Proofs.Tryz.f106 = some R106 := by kernel_rfl
def R107 : RFunc :=
  ⟨(.seq (.ops [⟨some 8,.mov (.tmp 1),none⟩,⟨some 9,.arith .add (.tmp 8) (.const (.int .i64 1)),none⟩,⟨some 6,.mov (.tmp 9),none⟩]) (.block 0 (.loop (.seq (.seq (.ops [⟨some 10,.mov (.tmp 6),none⟩,⟨some 11,.mov (.tmp 2),none⟩,⟨some 12,.cmp .lss (.tmp 10) (.tmp 11),none⟩]) (.cond (.tmp 12) .skip (.exit 0))) (.seq (.block 1 (.seq (.ops [⟨some 15,.mov (.tmp 6),none⟩,⟨some 7,.mov (.tmp 15),none⟩]) (.block 2 (.loop (.seq (.seq (.draw [(⟨some 16,.mov (.tmp 7),none⟩,false),(⟨some 17,.mov (.tmp 1),none⟩,false),(⟨some 18,.cmp .gtr (.tmp 16) (.tmp 17),none⟩,false),(⟨some 19,.mov (.tmp 18),none⟩,false),(⟨some 20,.mov (.tmp 0),some (19,true)⟩,false),(⟨some 21,.mov (.tmp 7),some (19,true)⟩,false),(⟨some 22,.idxAddr 1 (.tmp 20) (.tmp 21),some (19,true)⟩,false),(⟨some 23,.load (.tmp 22),some (19,true)⟩,false),(⟨some 24,.mov (.tmp 0),some (19,true)⟩,false),(⟨some 25,.mov (.tmp 7),some (19,true)⟩,false),(⟨some 26,.arith .sub (.tmp 25) (.const (.int .i64 1)),some (19,true)⟩,false),(⟨some 27,.idxAddr 1 (.tmp 24) (.tmp 26),some (19,true)⟩,false),(⟨some 28,.load (.tmp 27),some (19,true)⟩,false),(⟨some 29,.call (.func 113) [.tmp 23,.tmp 28],some (19,true)⟩,false),(⟨some 30,.pick (.tmp 19) (.tmp 29) (.const (.bool false)),none⟩,false)]) (.cond (.tmp 30) .skip (.exit 2))) (.seq (.block 3 (.draw [(⟨some 33,.mov (.tmp 0),none⟩,false),(⟨some 34,.mov (.tmp 7),none⟩,false),(⟨some 35,.mov (.tmp 0),none⟩,false),(⟨some 36,.mov (.tmp 7),none⟩,false),(⟨some 37,.arith .sub (.tmp 36) (.const (.int .i64 1)),none⟩,false),(⟨some 38,.mov (.tmp 0),none⟩,false),(⟨some 39,.mov (.tmp 7),none⟩,false),(⟨some 40,.arith .sub (.tmp 39) (.const (.int .i64 1)),none⟩,false),(⟨some 41,.idxAddr 1 (.tmp 38) (.tmp 40),none⟩,false),(⟨some 42,.load (.tmp 41),none⟩,false),(⟨some 43,.mov (.tmp 0),none⟩,false),(⟨some 44,.mov (.tmp 7),none⟩,false),(⟨some 45,.idxAddr 1 (.tmp 43) (.tmp 44),none⟩,false),(⟨some 46,.load (.tmp 45),none⟩,false),(⟨some 47,.idxAddr 1 (.tmp 33) (.tmp 34),none⟩,false),(⟨none,.store 1 (.tmp 47) (.tmp 42),none⟩,false),(⟨some 48,.idxAddr 1 (.tmp 35) (.tmp 37),none⟩,false),(⟨none,.store 1 (.tmp 48) (.tmp 46),none⟩,false)])) (.ops [⟨some 31,.mov (.tmp 7),none⟩,⟨some 32,.arith .sub (.tmp 31) (.const (.int .i64 1)),none⟩,⟨some 7,.mov (.tmp 32),none⟩]))))))) (.ops [⟨some 13,.mov (.tmp 6),none⟩,⟨some 14,.arith .add (.tmp 13) (.const (.int .i64 1)),none⟩,⟨some 6,.mov (.tmp 14),none⟩])))))),49,[]⟩
theorem c107 : compileFn Go.Proofs.Tryz.prog Go.Proofs.Tryz.f107 = some R107 := by kernel_rfl
theorem n107 : R107.ntmps = 49 := rfl
theorem a107 {args : List Value} {H : AHeap} {Q : Value → AHeap → Prop} (h : AWP Go.Proofs.Tryz.prog none R107.code (Fin R107 Q) (args ++ List.replicate (R107.ntmps - args.length) undef) H) : ACall Go.Proofs.Tryz.prog 107 args H Q := acall_intro mo Go.Proofs.Tryz.func107 c107 h
def R108 : RFunc :=
  ⟨(.seq (.ops [⟨some 11,.mov (.tmp 1),none⟩,⟨some 6,.mov (.tmp 11),none⟩]) (.seq (.ops [⟨some 7,.mov (.const (.int .i64 0)),none⟩]) (.seq (.ops [⟨some 12,.mov (.tmp 2),none⟩,⟨some 13,.mov (.tmp 1),none⟩,⟨some 14,.arith .sub (.tmp 12) (.tmp 13),none⟩,⟨some 8,.mov (.tmp 14),none⟩]) (.seq (.seq (.ops [⟨some 15,.mov (.tmp 8),none⟩,⟨some 16,.arith .sub (.tmp 15) (.const (.int .i64 1)),none⟩,⟨some 17,.arith .quo (.tmp 16) (.const (.int .i64 2)),none⟩,⟨some 9,.mov (.tmp 17),none⟩]) (.block 0 (.loop (.seq (.seq (.ops [⟨some 18,.mov (.tmp 9),none⟩,⟨some 19,.cmp .geq (.tmp 18) (.const (.int .i64 0)),none⟩]) (.cond (.tmp 19) .skip (.exit 0))) (.seq (.block 1 (.ops [⟨some 22,.mov (.tmp 0),none⟩,⟨some 23,.mov (.tmp 9),none⟩,⟨some 24,.mov (.tmp 8),none⟩,⟨some 25,.mov (.tmp 6),none⟩,⟨some 26,.call (.func 116) [.tmp 22,.tmp 23,.tmp 24,.tmp 25],none⟩])) (.ops [⟨some 20,.mov (.tmp 9),none⟩,⟨some 21,.arith .sub (.tmp 20) (.const (.int .i64 1)),none⟩,⟨some 9,.mov (.tmp 21),none⟩])))))) (.seq (.ops [⟨some 27,.mov (.tmp 8),none⟩,⟨some 28,.arith .sub (.tmp 27) (.const (.int .i64 1)),none⟩,⟨some 10,.mov (.tmp 28),none⟩]) (.block 2 (.loop (.seq (.seq (.ops [⟨some 29,.mov (.tmp 10),none⟩,⟨some 30,.cmp .geq (.tmp 29) (.const (.int .i64 0)),none⟩]) (.cond (.tmp 30) .skip (.exit 2))) (.seq (.block 3 (.seq (.draw [(⟨some 33,.mov (.tmp 0),none⟩,false),(⟨some 34,.mov (.tmp 6),none⟩,false),(⟨some 35,.mov (.tmp 0),none⟩,false),(⟨some 36,.mov (.tmp 6),none⟩,false),(⟨some 37,.mov (.tmp 10),none⟩,false),(⟨some 38,.arith .add (.tmp 36) (.tmp 37),none⟩,false),(⟨some 39,.mov (.tmp 0),none⟩,false),(⟨some 40,.mov (.tmp 6),none⟩,false),(⟨some 41,.mov (.tmp 10),none⟩,false),(⟨some 42,.arith .add (.tmp 40) (.tmp 41),none⟩,false),(⟨some 43,.idxAddr 1 (.tmp 39) (.tmp 42),none⟩,false),(⟨some 44,.load (.tmp 43),none⟩,false),(⟨some 45,.mov (.tmp 0),none⟩,false),(⟨some 46,.mov (.tmp 6),none⟩,false),(⟨some 47,.idxAddr 1 (.tmp 45) (.tmp 46),none⟩,false),(⟨some 48,.load (.tmp 47),none⟩,false),(⟨some 49,.idxAddr 1 (.tmp 33) (.tmp 34),none⟩,false),(⟨none,.store 1 (.tmp 49) (.tmp 44),none⟩,false),(⟨some 50,.idxAddr 1 (.tmp 35) (.tmp 38),none⟩,false),(⟨none,.store 1 (.tmp 50) (.tmp 48),none⟩,false)]) (.ops [⟨some 51,.mov (.tmp 0),none⟩,⟨some 52,.mov (.tmp 7),none⟩,⟨some 53,.mov (.tmp 10),none⟩,⟨some 54,.mov (.tmp 6),none⟩,⟨some 55,.call (.func 116) [.tmp 51,.tmp 52,.tmp 53,.tmp 54],none⟩]))) (.ops [⟨some 31,.mov (.tmp 10),none⟩,⟨some 32,.arith .sub (.tmp 31) (.const (.int .i64 1)),none⟩,⟨some 10,.mov (.tmp 32),none⟩])))))))))),56,[]⟩
theorem c108 : compileFn Go.Proofs.Tryz.prog Go.Proofs.Tryz.f108 = some R108 := by kernel_rfl
def R109 : RFunc :=
  ⟨(.seq (.ops [⟨some 11,.mov (.tmp 2),none⟩,⟨some 12,.mov (.tmp 1),none⟩,⟨some 13,.arith .sub (.tmp 11) (.tmp 12),none⟩,⟨some 6,.mov (.tmp 13),none⟩]) (.seq (.ops [⟨some 14,.mov (.tmp 6),none⟩,⟨some 15,.cmp .geq (.tmp 14) (.const (.int .i64 8)),none⟩]) (.cond (.tmp 15) (.seq (.ops [⟨some 16,.mov (.tmp 6),none⟩,⟨some 17,.conv .u64 (.tmp 16),none⟩,⟨some 7,.new [.int .u64 0],none⟩,⟨none,.store 1 (.tmp 7) (.tmp 17),none⟩]) (.seq (.ops [⟨some 18,.mov (.tmp 6),none⟩,⟨some 19,.call (.func 97) [.tmp 18],none⟩,⟨some 8,.mov (.tmp 19),none⟩]) (.seq (.ops [⟨some 20,.mov (.tmp 1),none⟩,⟨some 21,.mov (.tmp 6),none⟩,⟨some 22,.arith .quo (.tmp 21) (.const (.int .i64 4)),none⟩,⟨some 23,.arith .mul (.tmp 22) (.const (.int .i64 2)),none⟩,⟨some 24,.arith .add (.tmp 20) (.tmp 23),none⟩,⟨some 25,.arith .sub (.tmp 24) (.const (.int .i64 1)),none⟩,⟨some 9,.mov (.tmp 25),none⟩]) (.block 0 (.loop (.seq (.seq (.ops [⟨some 26,.mov (.tmp 9),none⟩,⟨some 27,.mov (.tmp 1),none⟩,⟨some 28,.mov (.tmp 6),none⟩,⟨some 29,.arith .quo (.tmp 28) (.const (.int .i64 4)),none⟩,⟨some 30,.arith .mul (.tmp 29) (.const (.int .i64 2)),none⟩,⟨some 31,.arith .add (.tmp 27) (.tmp 30),none⟩,⟨some 32,.arith .add (.tmp 31) (.const (.int .i64 1)),none⟩,⟨some 33,.cmp .leq (.tmp 26) (.tmp 32),none⟩]) (.cond (.tmp 33) .skip (.exit 0))) (.seq (.block 1 (.seq (.ops [⟨some 36,.call (.func 98) [.tmp 7],none⟩,⟨some 37,.mov (.tmp 8),none⟩,⟨some 38,.arith .sub (.tmp 37) (.const (.int .u64 1)),none⟩,⟨some 39,.band (.tmp 36) (.tmp 38),none⟩,⟨some 40,.conv .i64 (.tmp 39),none⟩,⟨some 10,.mov (.tmp 40),none⟩]) (.seq (.seq (.ops [⟨some 41,.mov (.tmp 10),none⟩,⟨some 42,.mov (.tmp 6),none⟩,⟨some 43,.cmp .geq (.tmp 41) (.tmp 42),none⟩]) (.cond (.tmp 43) (.ops [⟨some 44,.mov (.tmp 10),none⟩,⟨some 45,.mov (.tmp 6),none⟩,⟨some 46,.arith .sub (.tmp 44) (.tmp 45),none⟩,⟨some 10,.mov (.tmp 46),none⟩]) .skip)) (.draw [(⟨some 47,.mov (.tmp 0),none⟩,false),(⟨some 48,.mov (.tmp 9),none⟩,false),(⟨some 49,.mov (.tmp 0),none⟩,false),(⟨some 50,.mov (.tmp 1),none⟩,false),(⟨some 51,.mov (.tmp 10),none⟩,false),(⟨some 52,.arith .add (.tmp 50) (.tmp 51),none⟩,false),(⟨some 53,.mov (.tmp 0),none⟩,false),(⟨some 54,.mov (.tmp 1),none⟩,false),(⟨some 55,.mov (.tmp 10),none⟩,false),(⟨some 56,.arith .add (.tmp 54) (.tmp 55),none⟩,false),(⟨some 57,.idxAddr 1 (.tmp 53) (.tmp 56),none⟩,false),(⟨some 58,.load (.tmp 57),none⟩,false),(⟨some 59,.mov (.tmp 0),none⟩,false),(⟨some 60,.mov (.tmp 9),none⟩,false),(⟨some 61,.idxAddr 1 (.tmp 59) (.tmp 60),none⟩,false),(⟨some 62,.load (.tmp 61),none⟩,false),(⟨some 63,.idxAddr 1 (.tmp 47) (.tmp 48),none⟩,false),(⟨none,.store 1 (.tmp 63) (.tmp 58),none⟩,false),(⟨some 64,.idxAddr 1 (.tmp 49) (.tmp 52),none⟩,false),(⟨none,.store 1 (.tmp 64) (.tmp 62),none⟩,false)])))) (.ops [⟨some 34,.mov (.tmp 9),none⟩,⟨some 35,.arith .add (.tmp 34) (.const (.int .i64 1)),none⟩,⟨some 9,.mov (.tmp 35),none⟩])))))))) .skip))),65,[]⟩
theorem c109 : compileFn Go.Proofs.Tryz.prog Go.Proofs.Tryz.f109 = some R109 := by kernel_rfl
def R110 : RFunc :=
  ⟨(.seq (.ops [⟨some 6,.mov (.const (.int .i64 0)),none⟩,⟨some 7,.mov (.const (.int .i64 0)),none⟩]) (.seq (.ops [⟨some 13,.mov (.tmp 2),none⟩,⟨some 14,.mov (.tmp 1),none⟩,⟨some 15,.arith .sub (.tmp 13) (.tmp 14),none⟩,⟨some 8,.mov (.tmp 15),none⟩]) (.seq (.ops [⟨some 9,.new [.int .i64 0],none⟩]) (.seq (.ops [⟨some 16,.mov (.tmp 1),none⟩,⟨some 17,.mov (.tmp 8),none⟩,⟨some 18,.arith .quo (.tmp 17) (.const (.int .i64 4)),none⟩,⟨some 19,.arith .mul (.tmp 18) (.const (.int .i64 1)),none⟩,⟨some 20,.arith .add (.tmp 16) (.tmp 19),none⟩,⟨some 10,.mov (.tmp 20),none⟩]) (.seq (.ops [⟨some 21,.mov (.tmp 1),none⟩,⟨some 22,.mov (.tmp 8),none⟩,⟨some 23,.arith .quo (.tmp 22) (.const (.int .i64 4)),none⟩,⟨some 24,.arith .mul (.tmp 23) (.const (.int .i64 2)),none⟩,⟨some 25,.arith .add (.tmp 21) (.tmp 24),none⟩,⟨some 11,.mov (.tmp 25),none⟩]) (.seq (.ops [⟨some 26,.mov (.tmp 1),none⟩,⟨some 27,.mov (.tmp 8),none⟩,⟨some 28,.arith .quo (.tmp 27) (.const (.int .i64 4)),none⟩,⟨some 29,.arith .mul (.tmp 28) (.const (.int .i64 3)),none⟩,⟨some 30,.arith .add (.tmp 26) (.tmp 29),none⟩,⟨some 12,.mov (.tmp 30),none⟩]) (.seq (.seq (.ops [⟨some 31,.mov (.tmp 8),none⟩,⟨some 32,.cmp .geq (.tmp 31) (.const (.int .i64 8)),none⟩]) (.cond (.tmp 32) (.seq (.seq (.ops [⟨some 33,.mov (.tmp 8),none⟩,⟨some 34,.cmp .geq (.tmp 33) (.const (.int .i64 50)),none⟩]) (.cond (.tmp 34) (.seq (.ops [⟨some 35,.mov (.tmp 0),none⟩,⟨some 36,.mov (.tmp 10),none⟩,⟨some 37,.call (.func 117) [.tmp 35,.tmp 36,.tmp 9],none⟩,⟨some 10,.mov (.tmp 37),none⟩]) (.seq (.ops [⟨some 38,.mov (.tmp 0),none⟩,⟨some 39,.mov (.tmp 11),none⟩,⟨some 40,.call (.func 117) [.tmp 38,.tmp 39,.tmp 9],none⟩,⟨some 11,.mov (.tmp 40),none⟩]) (.ops [⟨some 41,.mov (.tmp 0),none⟩,⟨some 42,.mov (.tmp 12),none⟩,⟨some 43,.call (.func 117) [.tmp 41,.tmp 42,.tmp 9],none⟩,⟨some 12,.mov (.tmp 43),none⟩]))) .skip)) (.ops [⟨some 44,.mov (.tmp 0),none⟩,⟨some 45,.mov (.tmp 10),none⟩,⟨some 46,.mov (.tmp 11),none⟩,⟨some 47,.mov (.tmp 12),none⟩,⟨some 48,.call (.func 118) [.tmp 44,.tmp 45,.tmp 46,.tmp 47,.tmp 9],none⟩,⟨some 11,.mov (.tmp 48),none⟩])) .skip)) (.seq (.ops [⟨some 49,.load (.tmp 9),none⟩]) (.block 0 (.seq (.ops [⟨some 52,.cmp .eql (.tmp 49) (.const (.int .i64 0)),none⟩,⟨some 51,.mov (.tmp 52),none⟩]) (.cond (.tmp 51) (.seq (.ops [⟨some 53,.mov (.tmp 11),none⟩,⟨some 6,.mov (.tmp 53),none⟩,⟨some 7,.mov (.const (.int .i64 1)),none⟩]) .ret) (.seq (.ops [⟨some 55,.cmp .eql (.tmp 49) (.const (.int .i64 12)),none⟩,⟨some 54,.mov (.tmp 55),none⟩]) (.cond (.tmp 54) (.seq (.ops [⟨some 56,.mov (.tmp 11),none⟩,⟨some 6,.mov (.tmp 56),none⟩,⟨some 7,.mov (.const (.int .i64 2)),none⟩]) .ret) (.seq (.ops [⟨some 50,.mov (.tmp 11),none⟩,⟨some 6,.mov (.tmp 50),none⟩,⟨some 7,.mov (.const (.int .i64 0)),none⟩]) .ret)))))))))))))),57,[.tmp 6,.tmp 7]⟩
theorem c110 : compileFn Go.Proofs.Tryz.prog Go.Proofs.Tryz.f110 = some R110 := by kernel_rfl
def R111 : RFunc :=
  ⟨(.seq (.ops [⟨some 8,.mov (.tmp 1),none⟩,⟨some 6,.mov (.tmp 8),none⟩]) (.seq (.ops [⟨some 9,.mov (.tmp 2),none⟩,⟨some 10,.arith .sub (.tmp 9) (.const (.int .i64 1)),none⟩,⟨some 7,.mov (.tmp 10),none⟩]) (.block 0 (.loop (.seq (.seq (.ops [⟨some 11,.mov (.tmp 6),none⟩,⟨some 12,.mov (.tmp 7),none⟩,⟨some 13,.cmp .lss (.tmp 11) (.tmp 12),none⟩]) (.cond (.tmp 13) .skip (.exit 0))) (.block 1 (.seq (.draw [(⟨some 14,.mov (.tmp 0),none⟩,false),(⟨some 15,.mov (.tmp 6),none⟩,false),(⟨some 16,.mov (.tmp 0),none⟩,false),(⟨some 17,.mov (.tmp 7),none⟩,false),(⟨some 18,.mov (.tmp 0),none⟩,false),(⟨some 19,.mov (.tmp 7),none⟩,false),(⟨some 20,.idxAddr 1 (.tmp 18) (.tmp 19),none⟩,false),(⟨some 21,.load (.tmp 20),none⟩,false),(⟨some 22,.mov (.tmp 0),none⟩,false),(⟨some 23,.mov (.tmp 6),none⟩,false),(⟨some 24,.idxAddr 1 (.tmp 22) (.tmp 23),none⟩,false),(⟨some 25,.load (.tmp 24),none⟩,false),(⟨some 26,.idxAddr 1 (.tmp 14) (.tmp 15),none⟩,false),(⟨none,.store 1 (.tmp 26) (.tmp 21),none⟩,false),(⟨some 27,.idxAddr 1 (.tmp 16) (.tmp 17),none⟩,false),(⟨none,.store 1 (.tmp 27) (.tmp 25),none⟩,false)]) (.seq (.ops [⟨some 28,.mov (.tmp 6),none⟩,⟨some 29,.arith .add (.tmp 28) (.const (.int .i64 1)),none⟩,⟨some 6,.mov (.tmp 29),none⟩]) (.ops [⟨some 30,.mov (.tmp 7),none⟩,⟨some 31,.arith .sub (.tmp 30) (.const (.int .i64 1)),none⟩,⟨some 7,.mov (.tmp 31),none⟩]))))))))),32,[]⟩
theorem c111 : compileFn Go.Proofs.Tryz.prog Go.Proofs.Tryz.f111 = some R111 := by kernel_rfl
def R112 : RFunc :=
  ⟨(.seq (.ops [⟨some 6,.mov (.const (.bool false)),none⟩]) (.seq (.ops [⟨some 11,.mov (.tmp 1),none⟩,⟨some 12,.arith .add (.tmp 11) (.const (.int .i64 1)),none⟩,⟨some 7,.mov (.tmp 12),none⟩]) (.seq (.seq (.ops [⟨some 8,.mov (.const (.int .i64 0)),none⟩]) (.block 0 (.loop (.seq (.seq (.ops [⟨some 13,.mov (.tmp 8),none⟩,⟨some 14,.cmp .lss (.tmp 13) (.const (.int .i64 5)),none⟩]) (.cond (.tmp 14) .skip (.exit 0))) (.seq (.block 1 (.seq (.block 2 (.loop (.seq (.seq (.draw [(⟨some 17,.mov (.tmp 7),none⟩,false),(⟨some 18,.mov (.tmp 2),none⟩,false),(⟨some 19,.cmp .lss (.tmp 17) (.tmp 18),none⟩,false),(⟨some 20,.mov (.tmp 19),none⟩,false),(⟨some 21,.mov (.tmp 0),some (20,true)⟩,false),(⟨some 22,.mov (.tmp 7),some (20,true)⟩,false),(⟨some 23,.idxAddr 1 (.tmp 21) (.tmp 22),some (20,true)⟩,false),(⟨some 24,.load (.tmp 23),some (20,true)⟩,false),(⟨some 25,.mov (.tmp 0),some (20,true)⟩,false),(⟨some 26,.mov (.tmp 7),some (20,true)⟩,false),(⟨some 27,.arith .sub (.tmp 26) (.const (.int .i64 1)),some (20,true)⟩,false),(⟨some 28,.idxAddr 1 (.tmp 25) (.tmp 27),some (20,true)⟩,false),(⟨some 29,.load (.tmp 28),some (20,true)⟩,false),(⟨some 30,.call (.func 113) [.tmp 24,.tmp 29],some (20,true)⟩,false),(⟨some 31,.not (.tmp 30),some (20,true)⟩,false),(⟨some 32,.pick (.tmp 20) (.tmp 31) (.const (.bool false)),none⟩,false)]) (.cond (.tmp 32) .skip (.exit 2))) (.block 3 (.ops [⟨some 33,.mov (.tmp 7),none⟩,⟨some 34,.arith .add (.tmp 33) (.const (.int .i64 1)),none⟩,⟨some 7,.mov (.tmp 34),none⟩]))))) (.seq (.seq (.ops [⟨some 35,.mov (.tmp 7),none⟩,⟨some 36,.mov (.tmp 2),none⟩,⟨some 37,.cmp .eql (.tmp 35) (.tmp 36),none⟩]) (.cond (.tmp 37) (.seq (.ops [⟨some 6,.mov (.const (.bool true)),none⟩]) .ret) .skip)) (.seq (.seq (.ops [⟨some 38,.mov (.tmp 2),none⟩,⟨some 39,.mov (.tmp 1),none⟩,⟨some 40,.arith .sub (.tmp 38) (.tmp 39),none⟩,⟨some 41,.cmp .lss (.tmp 40) (.const (.int .i64 50)),none⟩]) (.cond (.tmp 41) (.seq (.ops [⟨some 6,.mov (.const (.bool false)),none⟩]) .ret) .skip)) (.seq (.draw [(⟨some 42,.mov (.tmp 0),none⟩,false),(⟨some 43,.mov (.tmp 7),none⟩,false),(⟨some 44,.mov (.tmp 0),none⟩,false),(⟨some 45,.mov (.tmp 7),none⟩,false),(⟨some 46,.arith .sub (.tmp 45) (.const (.int .i64 1)),none⟩,false),(⟨some 47,.mov (.tmp 0),none⟩,false),(⟨some 48,.mov (.tmp 7),none⟩,false),(⟨some 49,.arith .sub (.tmp 48) (.const (.int .i64 1)),none⟩,false),(⟨some 50,.idxAddr 1 (.tmp 47) (.tmp 49),none⟩,false),(⟨some 51,.load (.tmp 50),none⟩,false),(⟨some 52,.mov (.tmp 0),none⟩,false),(⟨some 53,.mov (.tmp 7),none⟩,false),(⟨some 54,.idxAddr 1 (.tmp 52) (.tmp 53),none⟩,false),(⟨some 55,.load (.tmp 54),none⟩,false),(⟨some 56,.idxAddr 1 (.tmp 42) (.tmp 43),none⟩,false),(⟨none,.store 1 (.tmp 56) (.tmp 51),none⟩,false),(⟨some 57,.idxAddr 1 (.tmp 44) (.tmp 46),none⟩,false),(⟨none,.store 1 (.tmp 57) (.tmp 55),none⟩,false)]) (.seq (.seq (.ops [⟨some 58,.mov (.tmp 7),none⟩,⟨some 59,.mov (.tmp 1),none⟩,⟨some 60,.arith .sub (.tmp 58) (.tmp 59),none⟩,⟨some 61,.cmp .geq (.tmp 60) (.const (.int .i64 2)),none⟩]) (.cond (.tmp 61) (.seq (.ops [⟨some 62,.mov (.tmp 7),none⟩,⟨some 63,.arith .sub (.tmp 62) (.const (.int .i64 1)),none⟩,⟨some 9,.mov (.tmp 63),none⟩]) (.block 4 (.loop (.seq (.seq (.ops [⟨some 64,.mov (.tmp 9),none⟩,⟨some 65,.cmp .geq (.tmp 64) (.const (.int .i64 1)),none⟩]) (.cond (.tmp 65) .skip (.exit 4))) (.seq (.block 5 (.seq (.seq (.draw [(⟨some 68,.mov (.tmp 0),none⟩,false),(⟨some 69,.mov (.tmp 9),none⟩,false),(⟨some 70,.idxAddr 1 (.tmp 68) (.tmp 69),none⟩,false),(⟨some 71,.load (.tmp 70),none⟩,false),(⟨some 72,.mov (.tmp 0),none⟩,false),(⟨some 73,.mov (.tmp 9),none⟩,false),(⟨some 74,.arith .sub (.tmp 73) (.const (.int .i64 1)),none⟩,false),(⟨some 75,.idxAddr 1 (.tmp 72) (.tmp 74),none⟩,false),(⟨some 76,.load (.tmp 75),none⟩,false),(⟨some 77,.call (.func 113) [.tmp 71,.tmp 76],none⟩,false),(⟨some 78,.not (.tmp 77),none⟩,false)]) (.cond (.tmp 78) (.exit 4) .skip)) (.draw [(⟨some 79,.mov (.tmp 0),none⟩,false),(⟨some 80,.mov (.tmp 9),none⟩,false),(⟨some 81,.mov (.tmp 0),none⟩,false),(⟨some 82,.mov (.tmp 9),none⟩,false),(⟨some 83,.arith .sub (.tmp 82) (.const (.int .i64 1)),none⟩,false),(⟨some 84,.mov (.tmp 0),none⟩,false),(⟨some 85,.mov (.tmp 9),none⟩,false),(⟨some 86,.arith .sub (.tmp 85) (.const (.int .i64 1)),none⟩,false),(⟨some 87,.idxAddr 1 (.tmp 84) (.tmp 86),none⟩,false),(⟨some 88,.load (.tmp 87),none⟩,false),(⟨some 89,.mov (.tmp 0),none⟩,false),(⟨some 90,.mov (.tmp 9),none⟩,false),(⟨some 91,.idxAddr 1 (.tmp 89) (.tmp 90),none⟩,false),(⟨some 92,.load (.tmp 91),none⟩,false),(⟨some 93,.idxAddr 1 (.tmp 79) (.tmp 80),none⟩,false),(⟨none,.store 1 (.tmp 93) (.tmp 88),none⟩,false),(⟨some 94,.idxAddr 1 (.tmp 81) (.tmp 83),none⟩,false),(⟨none,.store 1 (.tmp 94) (.tmp 92),none⟩,false)]))) (.ops [⟨some 66,.mov (.tmp 9),none⟩,⟨some 67,.arith .sub (.tmp 66) (.const (.int .i64 1)),none⟩,⟨some 9,.mov (.tmp 67),none⟩])))))) .skip)) (.seq (.ops [⟨some 95,.mov (.tmp 2),none⟩,⟨some 96,.mov (.tmp 7),none⟩,⟨some 97,.arith .sub (.tmp 95) (.tmp 96),none⟩,⟨some 98,.cmp .geq (.tmp 97) (.const (.int .i64 2)),none⟩]) (.cond (.tmp 98) (.seq (.ops [⟨some 99,.mov (.tmp 7),none⟩,⟨some 100,.arith .add (.tmp 99) (.const (.int .i64 1)),none⟩,⟨some 10,.mov (.tmp 100),none⟩]) (.block 6 (.loop (.seq (.seq (.ops [⟨some 101,.mov (.tmp 10),none⟩,⟨some 102,.mov (.tmp 2),none⟩,⟨some 103,.cmp .lss (.tmp 101) (.tmp 102),none⟩]) (.cond (.tmp 103) .skip (.exit 6))) (.seq (.block 7 (.seq (.seq (.draw [(⟨some 106,.mov (.tmp 0),none⟩,false),(⟨some 107,.mov (.tmp 10),none⟩,false),(⟨some 108,.idxAddr 1 (.tmp 106) (.tmp 107),none⟩,false),(⟨some 109,.load (.tmp 108),none⟩,false),(⟨some 110,.mov (.tmp 0),none⟩,false),(⟨some 111,.mov (.tmp 10),none⟩,false),(⟨some 112,.arith .sub (.tmp 111) (.const (.int .i64 1)),none⟩,false),(⟨some 113,.idxAddr 1 (.tmp 110) (.tmp 112),none⟩,false),(⟨some 114,.load (.tmp 113),none⟩,false),(⟨some 115,.call (.func 113) [.tmp 109,.tmp 114],none⟩,false),(⟨some 116,.not (.tmp 115),none⟩,false)]) (.cond (.tmp 116) (.exit 6) .skip)) (.draw [(⟨some 117,.mov (.tmp 0),none⟩,false),(⟨some 118,.mov (.tmp 10),none⟩,false),(⟨some 119,.mov (.tmp 0),none⟩,false),(⟨some 120,.mov (.tmp 10),none⟩,false),(⟨some 121,.arith .sub (.tmp 120) (.const (.int .i64 1)),none⟩,false),(⟨some 122,.mov (.tmp 0),none⟩,false),(⟨some 123,.mov (.tmp 10),none⟩,false),(⟨some 124,.arith .sub (.tmp 123) (.const (.int .i64 1)),none⟩,false),(⟨some 125,.idxAddr 1 (.tmp 122) (.tmp 124),none⟩,false),(⟨some 126,.load (.tmp 125),none⟩,false),(⟨some 127,.mov (.tmp 0),none⟩,false),(⟨some 128,.mov (.tmp 10),none⟩,false),(⟨some 129,.idxAddr 1 (.tmp 127) (.tmp 128),none⟩,false),(⟨some 130,.load (.tmp 129),none⟩,false),(⟨some 131,.idxAddr 1 (.tmp 117) (.tmp 118),none⟩,false),(⟨none,.store 1 (.tmp 131) (.tmp 126),none⟩,false),(⟨some 132,.idxAddr 1 (.tmp 119) (.tmp 121),none⟩,false),(⟨none,.store 1 (.tmp 132) (.tmp 130),none⟩,false)]))) (.ops [⟨some 104,.mov (.tmp 10),none⟩,⟨some 105,.arith .add (.tmp 104) (.const (.int .i64 1)),none⟩,⟨some 10,.mov (.tmp 105),none⟩])))))) .skip)))))))) (.ops [⟨some 15,.mov (.tmp 8),none⟩,⟨some 16,.arith .add (.tmp 15) (.const (.int .i64 1)),none⟩,⟨some 8,.mov (.tmp 16),none⟩])))))) (.seq (.ops [⟨some 6,.mov (.const (.bool false)),none⟩]) .ret)))),133,[.tmp 6]⟩
theorem c112 : compileFn Go.Proofs.Tryz.prog Go.Proofs.Tryz.f112 = some R112 := by kernel_rfl
def R113 : RFunc :=
  ⟨(.seq (.ops [⟨some 4,.mov (.const (.bool false)),none⟩]) (.seq (.ops [⟨some 5,.mov (.tmp 0),none⟩,⟨some 6,.call (.func 66) [.tmp 5],none⟩,⟨some 7,.mov (.tmp 6),none⟩,⟨some 8,.mov (.tmp 1),some (7,true)⟩,⟨some 9,.call (.func 66) [.tmp 8],some (7,true)⟩,⟨some 10,.not (.tmp 9),some (7,true)⟩,⟨some 11,.pick (.tmp 7) (.tmp 10) (.const (.bool false)),none⟩,⟨some 12,.mov (.tmp 11),none⟩,⟨some 13,.mov (.tmp 0),some (12,false)⟩,⟨some 14,.mov (.tmp 1),some (12,false)⟩,⟨some 15,.cmp .lss (.tmp 13) (.tmp 14),some (12,false)⟩,⟨some 16,.pick (.tmp 12) (.const (.bool true)) (.tmp 15),none⟩,⟨some 4,.mov (.tmp 16),none⟩]) .ret)),17,[.tmp 4]⟩
theorem c113 : compileFn Go.Proofs.Tryz.prog Go.Proofs.Tryz.f113 = some R113 := by kernel_rfl
theorem n113 : R113.ntmps = 17 := rfl
theorem a113 {args : List Value} {H : AHeap} {Q : Value → AHeap → Prop} (h : AWP Go.Proofs.Tryz.prog none R113.code (Fin R113 Q) (args ++ List.replicate (R113.ntmps - args.length) undef) H) : ACall Go.Proofs.Tryz.prog 113 args H Q := acall_intro mo Go.Proofs.Tryz.func113 c113 h
def R114 : RFunc :=
  ⟨(.seq (.ops [⟨some 8,.mov (.const (.int .i64 0)),none⟩]) (.seq (.draw [(⟨some 11,.mov (.tmp 0),none⟩,false),(⟨some 12,.mov (.tmp 1),none⟩,false),(⟨some 13,.mov (.tmp 0),none⟩,false),(⟨some 14,.mov (.tmp 3),none⟩,false),(⟨some 15,.mov (.tmp 0),none⟩,false),(⟨some 16,.mov (.tmp 3),none⟩,false),(⟨some 17,.idxAddr 1 (.tmp 15) (.tmp 16),none⟩,false),(⟨some 18,.load (.tmp 17),none⟩,false),(⟨some 19,.mov (.tmp 0),none⟩,false),(⟨some 20,.mov (.tmp 1),none⟩,false),(⟨some 21,.idxAddr 1 (.tmp 19) (.tmp 20),none⟩,false),(⟨some 22,.load (.tmp 21),none⟩,false),(⟨some 23,.idxAddr 1 (.tmp 11) (.tmp 12),none⟩,false),(⟨none,.store 1 (.tmp 23) (.tmp 18),none⟩,false),(⟨some 24,.idxAddr 1 (.tmp 13) (.tmp 14),none⟩,false),(⟨none,.store 1 (.tmp 24) (.tmp 22),none⟩,false)]) (.seq (.ops [⟨some 25,.mov (.tmp 1),none⟩,⟨some 26,.arith .add (.tmp 25) (.const (.int .i64 1)),none⟩,⟨some 27,.mov (.tmp 2),none⟩,⟨some 28,.arith .sub (.tmp 27) (.const (.int .i64 1)),none⟩,⟨some 9,.mov (.tmp 26),none⟩,⟨some 10,.mov (.tmp 28),none⟩]) (.seq (.block 0 (.loop (.block 1 (.seq (.block 2 (.loop (.seq (.seq (.draw [(⟨some 29,.mov (.tmp 9),none⟩,false),(⟨some 30,.mov (.tmp 10),none⟩,false),(⟨some 31,.cmp .leq (.tmp 29) (.tmp 30),none⟩,false),(⟨some 32,.mov (.tmp 31),none⟩,false),(⟨some 33,.mov (.tmp 0),some (32,true)⟩,false),(⟨some 34,.mov (.tmp 1),some (32,true)⟩,false),(⟨some 35,.idxAddr 1 (.tmp 33) (.tmp 34),some (32,true)⟩,false),(⟨some 36,.load (.tmp 35),some (32,true)⟩,false),(⟨some 37,.mov (.tmp 0),some (32,true)⟩,false),(⟨some 38,.mov (.tmp 9),some (32,true)⟩,false),(⟨some 39,.idxAddr 1 (.tmp 37) (.tmp 38),some (32,true)⟩,false),(⟨some 40,.load (.tmp 39),some (32,true)⟩,false),(⟨some 41,.call (.func 113) [.tmp 36,.tmp 40],some (32,true)⟩,false),(⟨some 42,.not (.tmp 41),some (32,true)⟩,false),(⟨some 43,.pick (.tmp 32) (.tmp 42) (.const (.bool false)),none⟩,false)]) (.cond (.tmp 43) .skip (.exit 2))) (.block 3 (.ops [⟨some 44,.mov (.tmp 9),none⟩,⟨some 45,.arith .add (.tmp 44) (.const (.int .i64 1)),none⟩,⟨some 9,.mov (.tmp 45),none⟩]))))) (.seq (.block 4 (.loop (.seq (.seq (.draw [(⟨some 46,.mov (.tmp 9),none⟩,false),(⟨some 47,.mov (.tmp 10),none⟩,false),(⟨some 48,.cmp .leq (.tmp 46) (.tmp 47),none⟩,false),(⟨some 49,.mov (.tmp 48),none⟩,false),(⟨some 50,.mov (.tmp 0),some (49,true)⟩,false),(⟨some 51,.mov (.tmp 1),some (49,true)⟩,false),(⟨some 52,.idxAddr 1 (.tmp 50) (.tmp 51),some (49,true)⟩,false),(⟨some 53,.load (.tmp 52),some (49,true)⟩,false),(⟨some 54,.mov (.tmp 0),some (49,true)⟩,false),(⟨some 55,.mov (.tmp 10),some (49,true)⟩,false),(⟨some 56,.idxAddr 1 (.tmp 54) (.tmp 55),some (49,true)⟩,false),(⟨some 57,.load (.tmp 56),some (49,true)⟩,false),(⟨some 58,.call (.func 113) [.tmp 53,.tmp 57],some (49,true)⟩,false),(⟨some 59,.pick (.tmp 49) (.tmp 58) (.const (.bool false)),none⟩,false)]) (.cond (.tmp 59) .skip (.exit 4))) (.block 5 (.ops [⟨some 60,.mov (.tmp 10),none⟩,⟨some 61,.arith .sub (.tmp 60) (.const (.int .i64 1)),none⟩,⟨some 10,.mov (.tmp 61),none⟩]))))) (.seq (.seq (.ops [⟨some 62,.mov (.tmp 9),none⟩,⟨some 63,.mov (.tmp 10),none⟩,⟨some 64,.cmp .gtr (.tmp 62) (.tmp 63),none⟩]) (.cond (.tmp 64) (.exit 0) .skip)) (.seq (.draw [(⟨some 65,.mov (.tmp 0),none⟩,false),(⟨some 66,.mov (.tmp 9),none⟩,false),(⟨some 67,.mov (.tmp 0),none⟩,false),(⟨some 68,.mov (.tmp 10),none⟩,false),(⟨some 69,.mov (.tmp 0),none⟩,false),(⟨some 70,.mov (.tmp 10),none⟩,false),(⟨some 71,.idxAddr 1 (.tmp 69) (.tmp 70),none⟩,false),(⟨some 72,.load (.tmp 71),none⟩,false),(⟨some 73,.mov (.tmp 0),none⟩,false),(⟨some 74,.mov (.tmp 9),none⟩,false),(⟨some 75,.idxAddr 1 (.tmp 73) (.tmp 74),none⟩,false),(⟨some 76,.load (.tmp 75),none⟩,false),(⟨some 77,.idxAddr 1 (.tmp 65) (.tmp 66),none⟩,false),(⟨none,.store 1 (.tmp 77) (.tmp 72),none⟩,false),(⟨some 78,.idxAddr 1 (.tmp 67) (.tmp 68),none⟩,false),(⟨none,.store 1 (.tmp 78) (.tmp 76),none⟩,false)]) (.seq (.ops [⟨some 79,.mov (.tmp 9),none⟩,⟨some 80,.arith .add (.tmp 79) (.const (.int .i64 1)),none⟩,⟨some 9,.mov (.tmp 80),none⟩]) (.ops [⟨some 81,.mov (.tmp 10),none⟩,⟨some 82,.arith .sub (.tmp 81) (.const (.int .i64 1)),none⟩,⟨some 10,.mov (.tmp 82),none⟩]))))))))) (.seq (.ops [⟨some 83,.mov (.tmp 9),none⟩,⟨some 8,.mov (.tmp 83),none⟩]) .ret))))),84,[.tmp 8]⟩
theorem c114 : compileFn Go.Proofs.Tryz.prog Go.Proofs.Tryz.f114 = some R114 := by kernel_rfl
def R115 : RFunc :=
  ⟨(.seq (.ops [⟨some 8,.mov (.const (.int .i64 0)),none⟩,⟨some 9,.mov (.const (.bool false)),none⟩]) (.seq (.draw [(⟨some 12,.mov (.tmp 0),none⟩,false),(⟨some 13,.mov (.tmp 1),none⟩,false),(⟨some 14,.mov (.tmp 0),none⟩,false),(⟨some 15,.mov (.tmp 3),none⟩,false),(⟨some 16,.mov (.tmp 0),none⟩,false),(⟨some 17,.mov (.tmp 3),none⟩,false),(⟨some 18,.idxAddr 1 (.tmp 16) (.tmp 17),none⟩,false),(⟨some 19,.load (.tmp 18),none⟩,false),(⟨some 20,.mov (.tmp 0),none⟩,false),(⟨some 21,.mov (.tmp 1),none⟩,false),(⟨some 22,.idxAddr 1 (.tmp 20) (.tmp 21),none⟩,false),(⟨some 23,.load (.tmp 22),none⟩,false),(⟨some 24,.idxAddr 1 (.tmp 12) (.tmp 13),none⟩,false),(⟨none,.store 1 (.tmp 24) (.tmp 19),none⟩,false),(⟨some 25,.idxAddr 1 (.tmp 14) (.tmp 15),none⟩,false),(⟨none,.store 1 (.tmp 25) (.tmp 23),none⟩,false)]) (.seq (.ops [⟨some 26,.mov (.tmp 1),none⟩,⟨some 27,.arith .add (.tmp 26) (.const (.int .i64 1)),none⟩,⟨some 28,.mov (.tmp 2),none⟩,⟨some 29,.arith .sub (.tmp 28) (.const (.int .i64 1)),none⟩,⟨some 10,.mov (.tmp 27),none⟩,⟨some 11,.mov (.tmp 29),none⟩]) (.seq (.block 0 (.loop (.seq (.seq (.draw [(⟨some 30,.mov (.tmp 10),none⟩,false),(⟨some 31,.mov (.tmp 11),none⟩,false),(⟨some 32,.cmp .leq (.tmp 30) (.tmp 31),none⟩,false),(⟨some 33,.mov (.tmp 32),none⟩,false),(⟨some 34,.mov (.tmp 0),some (33,true)⟩,false),(⟨some 35,.mov (.tmp 10),some (33,true)⟩,false),(⟨some 36,.idxAddr 1 (.tmp 34) (.tmp 35),some (33,true)⟩,false),(⟨some 37,.load (.tmp 36),some (33,true)⟩,false),(⟨some 38,.mov (.tmp 0),some (33,true)⟩,false),(⟨some 39,.mov (.tmp 1),some (33,true)⟩,false),(⟨some 40,.idxAddr 1 (.tmp 38) (.tmp 39),some (33,true)⟩,false),(⟨some 41,.load (.tmp 40),some (33,true)⟩,false),(⟨some 42,.call (.func 113) [.tmp 37,.tmp 41],some (33,true)⟩,false),(⟨some 43,.pick (.tmp 33) (.tmp 42) (.const (.bool false)),none⟩,false)]) (.cond (.tmp 43) .skip (.exit 0))) (.block 1 (.ops [⟨some 44,.mov (.tmp 10),none⟩,⟨some 45,.arith .add (.tmp 44) (.const (.int .i64 1)),none⟩,⟨some 10,.mov (.tmp 45),none⟩]))))) (.seq (.block 2 (.loop (.seq (.seq (.draw [(⟨some 46,.mov (.tmp 10),none⟩,false),(⟨some 47,.mov (.tmp 11),none⟩,false),(⟨some 48,.cmp .leq (.tmp 46) (.tmp 47),none⟩,false),(⟨some 49,.mov (.tmp 48),none⟩,false),(⟨some 50,.mov (.tmp 0),some (49,true)⟩,false),(⟨some 51,.mov (.tmp 11),some (49,true)⟩,false),(⟨some 52,.idxAddr 1 (.tmp 50) (.tmp 51),some (49,true)⟩,false),(⟨some 53,.load (.tmp 52),some (49,true)⟩,false),(⟨some 54,.mov (.tmp 0),some (49,true)⟩,false),(⟨some 55,.mov (.tmp 1),some (49,true)⟩,false),(⟨some 56,.idxAddr 1 (.tmp 54) (.tmp 55),some (49,true)⟩,false),(⟨some 57,.load (.tmp 56),some (49,true)⟩,false),(⟨some 58,.call (.func 113) [.tmp 53,.tmp 57],some (49,true)⟩,false),(⟨some 59,.not (.tmp 58),some (49,true)⟩,false),(⟨some 60,.pick (.tmp 49) (.tmp 59) (.const (.bool false)),none⟩,false)]) (.cond (.tmp 60) .skip (.exit 2))) (.block 3 (.ops [⟨some 61,.mov (.tmp 11),none⟩,⟨some 62,.arith .sub (.tmp 61) (.const (.int .i64 1)),none⟩,⟨some 11,.mov (.tmp 62),none⟩]))))) (.seq (.seq (.ops [⟨some 63,.mov (.tmp 10),none⟩,⟨some 64,.mov (.tmp 11),none⟩,⟨some 65,.cmp .gtr (.tmp 63) (.tmp 64),none⟩]) (.cond (.tmp 65) (.seq (.draw [(⟨some 66,.mov (.tmp 0),none⟩,false),(⟨some 67,.mov (.tmp 11),none⟩,false),(⟨some 68,.mov (.tmp 0),none⟩,false),(⟨some 69,.mov (.tmp 1),none⟩,false),(⟨some 70,.mov (.tmp 0),none⟩,false),(⟨some 71,.mov (.tmp 1),none⟩,false),(⟨some 72,.idxAddr 1 (.tmp 70) (.tmp 71),none⟩,false),(⟨some 73,.load (.tmp 72),none⟩,false),(⟨some 74,.mov (.tmp 0),none⟩,false),(⟨some 75,.mov (.tmp 11),none⟩,false),(⟨some 76,.idxAddr 1 (.tmp 74) (.tmp 75),none⟩,false),(⟨some 77,.load (.tmp 76),none⟩,false),(⟨some 78,.idxAddr 1 (.tmp 66) (.tmp 67),none⟩,false),(⟨none,.store 1 (.tmp 78) (.tmp 73),none⟩,false),(⟨some 79,.idxAddr 1 (.tmp 68) (.tmp 69),none⟩,false),(⟨none,.store 1 (.tmp 79) (.tmp 77),none⟩,false)]) (.seq (.ops [⟨some 80,.mov (.tmp 11),none⟩,⟨some 8,.mov (.tmp 80),none⟩,⟨some 9,.mov (.const (.bool true)),none⟩]) .ret)) .skip)) (.seq (.draw [(⟨some 81,.mov (.tmp 0),none⟩,false),(⟨some 82,.mov (.tmp 10),none⟩,false),(⟨some 83,.mov (.tmp 0),none⟩,false),(⟨some 84,.mov (.tmp 11),none⟩,false),(⟨some 85,.mov (.tmp 0),none⟩,false),(⟨some 86,.mov (.tmp 11),none⟩,false),(⟨some 87,.idxAddr 1 (.tmp 85) (.tmp 86),none⟩,false),(⟨some 88,.load (.tmp 87),none⟩,false),(⟨some 89,.mov (.tmp 0),none⟩,false),(⟨some 90,.mov (.tmp 10),none⟩,false),(⟨some 91,.idxAddr 1 (.tmp 89) (.tmp 90),none⟩,false),(⟨some 92,.load (.tmp 91),none⟩,false),(⟨some 93,.idxAddr 1 (.tmp 81) (.tmp 82),none⟩,false),(⟨none,.store 1 (.tmp 93) (.tmp 88),none⟩,false),(⟨some 94,.idxAddr 1 (.tmp 83) (.tmp 84),none⟩,false),(⟨none,.store 1 (.tmp 94) (.tmp 92),none⟩,false)]) (.seq (.ops [⟨some 95,.mov (.tmp 10),none⟩,⟨some 96,.arith .add (.tmp 95) (.const (.int .i64 1)),none⟩,⟨some 10,.mov (.tmp 96),none⟩]) (.seq (.ops [⟨some 97,.mov (.tmp 11),none⟩,⟨some 98,.arith .sub (.tmp 97) (.const (.int .i64 1)),none⟩,⟨some 11,.mov (.tmp 98),none⟩]) (.seq (.block 4 (.loop (.block 5 (.seq (.block 6 (.loop (.seq (.seq (.draw [(⟨some 99,.mov (.tmp 10),none⟩,false),(⟨some 100,.mov (.tmp 11),none⟩,false),(⟨some 101,.cmp .leq (.tmp 99) (.tmp 100),none⟩,false),(⟨some 102,.mov (.tmp 101),none⟩,false),(⟨some 103,.mov (.tmp 0),some (102,true)⟩,false),(⟨some 104,.mov (.tmp 10),some (102,true)⟩,false),(⟨some 105,.idxAddr 1 (.tmp 103) (.tmp 104),some (102,true)⟩,false),(⟨some 106,.load (.tmp 105),some (102,true)⟩,false),(⟨some 107,.mov (.tmp 0),some (102,true)⟩,false),(⟨some 108,.mov (.tmp 1),some (102,true)⟩,false),(⟨some 109,.idxAddr 1 (.tmp 107) (.tmp 108),some (102,true)⟩,false),(⟨some 110,.load (.tmp 109),some (102,true)⟩,false),(⟨some 111,.call (.func 113) [.tmp 106,.tmp 110],some (102,true)⟩,false),(⟨some 112,.pick (.tmp 102) (.tmp 111) (.const (.bool false)),none⟩,false)]) (.cond (.tmp 112) .skip (.exit 6))) (.block 7 (.ops [⟨some 113,.mov (.tmp 10),none⟩,⟨some 114,.arith .add (.tmp 113) (.const (.int .i64 1)),none⟩,⟨some 10,.mov (.tmp 114),none⟩]))))) (.seq (.block 8 (.loop (.seq (.seq (.draw [(⟨some 115,.mov (.tmp 10),none⟩,false),(⟨some 116,.mov (.tmp 11),none⟩,false),(⟨some 117,.cmp .leq (.tmp 115) (.tmp 116),none⟩,false),(⟨some 118,.mov (.tmp 117),none⟩,false),(⟨some 119,.mov (.tmp 0),some (118,true)⟩,false),(⟨some 120,.mov (.tmp 11),some (118,true)⟩,false),(⟨some 121,.idxAddr 1 (.tmp 119) (.tmp 120),some (118,true)⟩,false),(⟨some 122,.load (.tmp 121),some (118,true)⟩,false),(⟨some 123,.mov (.tmp 0),some (118,true)⟩,false),(⟨some 124,.mov (.tmp 1),some (118,true)⟩,false),(⟨some 125,.idxAddr 1 (.tmp 123) (.tmp 124),some (118,true)⟩,false),(⟨some 126,.load (.tmp 125),some (118,true)⟩,false),(⟨some 127,.call (.func 113) [.tmp 122,.tmp 126],some (118,true)⟩,false),(⟨some 128,.not (.tmp 127),some (118,true)⟩,false),(⟨some 129,.pick (.tmp 118) (.tmp 128) (.const (.bool false)),none⟩,false)]) (.cond (.tmp 129) .skip (.exit 8))) (.block 9 (.ops [⟨some 130,.mov (.tmp 11),none⟩,⟨some 131,.arith .sub (.tmp 130) (.const (.int .i64 1)),none⟩,⟨some 11,.mov (.tmp 131),none⟩]))))) (.seq (.seq (.ops [⟨some 132,.mov (.tmp 10),none⟩,⟨some 133,.mov (.tmp 11),none⟩,⟨some 134,.cmp .gtr (.tmp 132) (.tmp 133),none⟩]) (.cond (.tmp 134) (.exit 4) .skip)) (.seq (.draw [(⟨some 135,.mov (.tmp 0),none⟩,false),(⟨some 136,.mov (.tmp 10),none⟩,false),(⟨some 137,.mov (.tmp 0),none⟩,false),(⟨some 138,.mov (.tmp 11),none⟩,false),(⟨some 139,.mov (.tmp 0),none⟩,false),(⟨some 140,.mov (.tmp 11),none⟩,false),(⟨some 141,.idxAddr 1 (.tmp 139) (.tmp 140),none⟩,false),(⟨some 142,.load (.tmp 141),none⟩,false),(⟨some 143,.mov (.tmp 0),none⟩,false),(⟨some 144,.mov (.tmp 10),none⟩,false),(⟨some 145,.idxAddr 1 (.tmp 143) (.tmp 144),none⟩,false),(⟨some 146,.load (.tmp 145),none⟩,false),(⟨some 147,.idxAddr 1 (.tmp 135) (.tmp 136),none⟩,false),(⟨none,.store 1 (.tmp 147) (.tmp 142),none⟩,false),(⟨some 148,.idxAddr 1 (.tmp 137) (.tmp 138),none⟩,false),(⟨none,.store 1 (.tmp 148) (.tmp 146),none⟩,false)]) (.seq (.ops [⟨some 149,.mov (.tmp 10),none⟩,⟨some 150,.arith .add (.tmp 149) (.const (.int .i64 1)),none⟩,⟨some 10,.mov (.tmp 150),none⟩]) (.ops [⟨some 151,.mov (.tmp 11),none⟩,⟨some 152,.arith .sub (.tmp 151) (.const (.int .i64 1)),none⟩,⟨some 11,.mov (.tmp 152),none⟩]))))))))) (.seq (.draw [(⟨some 153,.mov (.tmp 0),none⟩,false),(⟨some 154,.mov (.tmp 11),none⟩,false),(⟨some 155,.mov (.tmp 0),none⟩,false),(⟨some 156,.mov (.tmp 1),none⟩,false),(⟨some 157,.mov (.tmp 0),none⟩,false),(⟨some 158,.mov (.tmp 1),none⟩,false),(⟨some 159,.idxAddr 1 (.tmp 157) (.tmp 158),none⟩,false),(⟨some 160,.load (.tmp 159),none⟩,false),(⟨some 161,.mov (.tmp 0),none⟩,false),(⟨some 162,.mov (.tmp 11),none⟩,false),(⟨some 163,.idxAddr 1 (.tmp 161) (.tmp 162),none⟩,false),(⟨some 164,.load (.tmp 163),none⟩,false),(⟨some 165,.idxAddr 1 (.tmp 153) (.tmp 154),none⟩,false),(⟨none,.store 1 (.tmp 165) (.tmp 160),none⟩,false),(⟨some 166,.idxAddr 1 (.tmp 155) (.tmp 156),none⟩,false),(⟨none,.store 1 (.tmp 166) (.tmp 164),none⟩,false)]) (.seq (.ops [⟨some 167,.mov (.tmp 11),none⟩,⟨some 8,.mov (.tmp 167),none⟩,⟨some 9,.mov (.const (.bool false)),none⟩]) .ret)))))))))))),168,[.tmp 8,.tmp 9]⟩
theorem c115 : compileFn Go.Proofs.Tryz.prog Go.Proofs.Tryz.f115 = some R115 := by kernel_rfl
def R116 : RFunc :=
  ⟨(.seq (.ops [⟨some 10,.mov (.tmp 1),none⟩,⟨some 8,.mov (.tmp 10),none⟩]) (.block 0 (.loop (.block 1 (.seq (.ops [⟨some 11,.mov (.tmp 8),none⟩,⟨some 12,.arith .mul (.const (.int .i64 2)) (.tmp 11),none⟩,⟨some 13,.arith .add (.tmp 12) (.const (.int .i64 1)),none⟩,⟨some 9,.mov (.tmp 13),none⟩]) (.seq (.seq (.ops [⟨some 14,.mov (.tmp 9),none⟩,⟨some 15,.mov (.tmp 2),none⟩,⟨some 16,.cmp .geq (.tmp 14) (.tmp 15),none⟩]) (.cond (.tmp 16) (.exit 0) .skip)) (.seq (.seq (.draw [(⟨some 17,.mov (.tmp 9),none⟩,false),(⟨some 18,.arith .add (.tmp 17) (.const (.int .i64 1)),none⟩,false),(⟨some 19,.mov (.tmp 2),none⟩,false),(⟨some 20,.cmp .lss (.tmp 18) (.tmp 19),none⟩,false),(⟨some 21,.mov (.tmp 20),none⟩,false),(⟨some 22,.mov (.tmp 0),some (21,true)⟩,false),(⟨some 23,.mov (.tmp 3),some (21,true)⟩,false),(⟨some 24,.mov (.tmp 9),some (21,true)⟩,false),(⟨some 25,.arith .add (.tmp 23) (.tmp 24),some (21,true)⟩,false),(⟨some 26,.idxAddr 1 (.tmp 22) (.tmp 25),some (21,true)⟩,false),(⟨some 27,.load (.tmp 26),some (21,true)⟩,false),(⟨some 28,.mov (.tmp 0),some (21,true)⟩,false),(⟨some 29,.mov (.tmp 3),some (21,true)⟩,false),(⟨some 30,.mov (.tmp 9),some (21,true)⟩,false),(⟨some 31,.arith .add (.tmp 29) (.tmp 30),some (21,true)⟩,false),(⟨some 32,.arith .add (.tmp 31) (.const (.int .i64 1)),some (21,true)⟩,false),(⟨some 33,.idxAddr 1 (.tmp 28) (.tmp 32),some (21,true)⟩,false),(⟨some 34,.load (.tmp 33),some (21,true)⟩,false),(⟨some 35,.call (.func 113) [.tmp 27,.tmp 34],some (21,true)⟩,false),(⟨some 36,.pick (.tmp 21) (.tmp 35) (.const (.bool false)),none⟩,false)]) (.cond (.tmp 36) (.ops [⟨some 37,.mov (.tmp 9),none⟩,⟨some 38,.arith .add (.tmp 37) (.const (.int .i64 1)),none⟩,⟨some 9,.mov (.tmp 38),none⟩]) .skip)) (.seq (.seq (.draw [(⟨some 39,.mov (.tmp 0),none⟩,false),(⟨some 40,.mov (.tmp 3),none⟩,false),(⟨some 41,.mov (.tmp 8),none⟩,false),(⟨some 42,.arith .add (.tmp 40) (.tmp 41),none⟩,false),(⟨some 43,.idxAddr 1 (.tmp 39) (.tmp 42),none⟩,false),(⟨some 44,.load (.tmp 43),none⟩,false),(⟨some 45,.mov (.tmp 0),none⟩,false),(⟨some 46,.mov (.tmp 3),none⟩,false),(⟨some 47,.mov (.tmp 9),none⟩,false),(⟨some 48,.arith .add (.tmp 46) (.tmp 47),none⟩,false),(⟨some 49,.idxAddr 1 (.tmp 45) (.tmp 48),none⟩,false),(⟨some 50,.load (.tmp 49),none⟩,false),(⟨some 51,.call (.func 113) [.tmp 44,.tmp 50],none⟩,false),(⟨some 52,.not (.tmp 51),none⟩,false)]) (.cond (.tmp 52) .ret .skip)) (.seq (.draw [(⟨some 53,.mov (.tmp 0),none⟩,false),(⟨some 54,.mov (.tmp 3),none⟩,false),(⟨some 55,.mov (.tmp 8),none⟩,false),(⟨some 56,.arith .add (.tmp 54) (.tmp 55),none⟩,false),(⟨some 57,.mov (.tmp 0),none⟩,false),(⟨some 58,.mov (.tmp 3),none⟩,false),(⟨some 59,.mov (.tmp 9),none⟩,false),(⟨some 60,.arith .add (.tmp 58) (.tmp 59),none⟩,false),(⟨some 61,.mov (.tmp 0),none⟩,false),(⟨some 62,.mov (.tmp 3),none⟩,false),(⟨some 63,.mov (.tmp 9),none⟩,false),(⟨some 64,.arith .add (.tmp 62) (.tmp 63),none⟩,false),(⟨some 65,.idxAddr 1 (.tmp 61) (.tmp 64),none⟩,false),(⟨some 66,.load (.tmp 65),none⟩,false),(⟨some 67,.mov (.tmp 0),none⟩,false),(⟨some 68,.mov (.tmp 3),none⟩,false),(⟨some 69,.mov (.tmp 8),none⟩,false),(⟨some 70,.arith .add (.tmp 68) (.tmp 69),none⟩,false),(⟨some 71,.idxAddr 1 (.tmp 67) (.tmp 70),none⟩,false),(⟨some 72,.load (.tmp 71),none⟩,false),(⟨some 73,.idxAddr 1 (.tmp 53) (.tmp 56),none⟩,false),(⟨none,.store 1 (.tmp 73) (.tmp 66),none⟩,false),(⟨some 74,.idxAddr 1 (.tmp 57) (.tmp 60),none⟩,false),(⟨none,.store 1 (.tmp 74) (.tmp 72),none⟩,false)]) (.ops [⟨some 75,.mov (.tmp 9),none⟩,⟨some 8,.mov (.tmp 75),none⟩])))))))))),76,[]⟩
theorem c116 : compileFn Go.Proofs.Tryz.prog Go.Proofs.Tryz.f116 = some R116 := by kernel_rfl
def R117 : RFunc :=
  ⟨(.seq (.ops [⟨some 6,.mov (.const (.int .i64 0)),none⟩]) (.seq (.ops [⟨some 7,.mov (.tmp 0),none⟩,⟨some 8,.mov (.tmp 1),none⟩,⟨some 9,.arith .sub (.tmp 8) (.const (.int .i64 1)),none⟩,⟨some 10,.mov (.tmp 1),none⟩,⟨some 11,.mov (.tmp 1),none⟩,⟨some 12,.arith .add (.tmp 11) (.const (.int .i64 1)),none⟩,⟨some 13,.mov (.tmp 2),none⟩,⟨some 14,.call (.func 118) [.tmp 7,.tmp 9,.tmp 10,.tmp 12,.tmp 13],none⟩,⟨some 6,.mov (.tmp 14),none⟩]) .ret)),15,[.tmp 6]⟩
theorem c117 : compileFn Go.Proofs.Tryz.prog Go.Proofs.Tryz.f117 = some R117 := by kernel_rfl
def R118 : RFunc :=
  ⟨(.seq (.ops [⟨some 10,.mov (.const (.int .i64 0)),none⟩]) (.seq (.ops [⟨some 12,.mov (.tmp 0),none⟩,⟨some 13,.mov (.tmp 1),none⟩,⟨some 14,.mov (.tmp 2),none⟩,⟨some 15,.mov (.tmp 4),none⟩,⟨some 16,.call (.func 119) [.tmp 12,.tmp 13,.tmp 14,.tmp 15],none⟩,⟨some 11,.mov (.tmp 16),none⟩,⟨some 17,.extract (.tmp 11) 0,none⟩,⟨some 18,.extract (.tmp 11) 1,none⟩,⟨some 1,.mov (.tmp 17),none⟩,⟨some 2,.mov (.tmp 18),none⟩]) (.seq (.ops [⟨some 20,.mov (.tmp 0),none⟩,⟨some 21,.mov (.tmp 2),none⟩,⟨some 22,.mov (.tmp 3),none⟩,⟨some 23,.mov (.tmp 4),none⟩,⟨some 24,.call (.func 119) [.tmp 20,.tmp 21,.tmp 22,.tmp 23],none⟩,⟨some 19,.mov (.tmp 24),none⟩,⟨some 25,.extract (.tmp 19) 0,none⟩,⟨some 26,.extract (.tmp 19) 1,none⟩,⟨some 2,.mov (.tmp 25),none⟩,⟨some 3,.mov (.tmp 26),none⟩]) (.seq (.ops [⟨some 28,.mov (.tmp 0),none⟩,⟨some 29,.mov (.tmp 1),none⟩,⟨some 30,.mov (.tmp 2),none⟩,⟨some 31,.mov (.tmp 4),none⟩,⟨some 32,.call (.func 119) [.tmp 28,.tmp 29,.tmp 30,.tmp 31],none⟩,⟨some 27,.mov (.tmp 32),none⟩,⟨some 33,.extract (.tmp 27) 0,none⟩,⟨some 34,.extract (.tmp 27) 1,none⟩,⟨some 1,.mov (.tmp 33),none⟩,⟨some 2,.mov (.tmp 34),none⟩]) (.seq (.ops [⟨some 35,.mov (.tmp 2),none⟩,⟨some 10,.mov (.tmp 35),none⟩]) .ret))))),36,[.tmp 10]⟩
theorem c118 : compileFn Go.Proofs.Tryz.prog Go.Proofs.Tryz.f118 = some R118 := by kernel_rfl
def R119 : RFunc :=
  ⟨(.seq (.ops [⟨some 8,.mov (.const (.int .i64 0)),none⟩,⟨some 9,.mov (.const (.int .i64 0)),none⟩]) (.seq (.seq (.draw [(⟨some 10,.mov (.tmp 0),none⟩,false),(⟨some 11,.mov (.tmp 2),none⟩,false),(⟨some 12,.idxAddr 1 (.tmp 10) (.tmp 11),none⟩,false),(⟨some 13,.load (.tmp 12),none⟩,false),(⟨some 14,.mov (.tmp 0),none⟩,false),(⟨some 15,.mov (.tmp 1),none⟩,false),(⟨some 16,.idxAddr 1 (.tmp 14) (.tmp 15),none⟩,false),(⟨some 17,.load (.tmp 16),none⟩,false),(⟨some 18,.call (.func 113) [.tmp 13,.tmp 17],none⟩,false)]) (.cond (.tmp 18) (.seq (.ops [⟨some 19,.mov (.tmp 3),none⟩,⟨some 20,.nilCheck (.tmp 19),none⟩,⟨some 21,.load (.tmp 20),none⟩,⟨some 22,.arith .add (.tmp 21) (.const (.int .i64 1)),none⟩,⟨some 23,.nilCheck (.tmp 19),none⟩,⟨none,.store 1 (.tmp 23) (.tmp 22),none⟩]) (.seq (.ops [⟨some 24,.mov (.tmp 2),none⟩,⟨some 25,.mov (.tmp 1),none⟩,⟨some 8,.mov (.tmp 24),none⟩,⟨some 9,.mov (.tmp 25),none⟩]) .ret)) .skip)) (.seq (.ops [⟨some 26,.mov (.tmp 1),none⟩,⟨some 27,.mov (.tmp 2),none⟩,⟨some 8,.mov (.tmp 26),none⟩,⟨some 9,.mov (.tmp 27),none⟩]) .ret))),28,[.tmp 8,.tmp 9]⟩
theorem c119 : compileFn Go.Proofs.Tryz.prog Go.Proofs.Tryz.f119 = some R119 := by kernel_rfl
end Go.Lq

namespace Go.Lq
open Go
def tabA : List (Nat × RFunc) :=
  [(4,R4),(8,R8),(15,R15),(16,R16),(17,R17),(22,R22),(23,R23),(24,R24),(25,R25),(26,R26),(27,R27),(28,R28),(29,R29),(33,R33),(34,R34),(35,R35),(37,R37),(41,R41),(42,R42),(43,R43),(44,R44),(45,R45),(46,R46),(47,R47),(48,R48),(51,R51),(52,R52),(53,R53),(54,R54),(55,R55),(56,R56),(57,R57),(58,R58),(60,R60),(64,R64),(65,R65),(66,R66),(69,R69),(70,R70),(71,R71),(72,R72),(73,R73),(74,R74),(75,R75),(76,R76),(77,R77),(78,R78),(79,R79),(80,R80),(81,R81),(82,R82),(83,R83),(84,R84),(85,R85),(86,R86),(87,R87),(88,R88),(89,R89),(90,R90),(91,R91),(92,R92),(93,R93),(94,R94),(95,R95),(96,R96),(97,R97),(98,R98),(99,R99),(100,R100),(101,R101),(102,R102),(103,R103),(104,R104),(105,R105),(106,R106),(107,R107),(108,R108),(109,R109),(110,R110),(111,R111),(112,R112),(113,R113),(114,R114),(115,R115),(116,R116),(117,R117),(118,R118),(119,R119)]
def TA (f : Nat) : Option RFunc := (tabA.find? (fun p => p.1 == f)).map (·.2)
theorem soundTA : SoundT Go.Proofs.Tryz.prog TA := by
  intro f rf h
  have key : ∀ p ∈ tabA,∃ fn,Go.Proofs.Tryz.prog.funcs[p.1]? = some fn ∧ compileFn Go.Proofs.Tryz.prog fn = some p.2 := by
    unfold tabA
    refine List.forall_mem_cons.2 ⟨⟨_,Go.Proofs.Tryz.func4,c4⟩,List.forall_mem_cons.2 ⟨⟨_,Go.Proofs.Tryz.func8,c8⟩,List.forall_mem_cons.2 ⟨⟨_,Go.Proofs.Tryz.func15,c15⟩,List.forall_mem_cons.2 ⟨⟨_,Go.Proofs.Tryz.func16,c16⟩,List.forall_mem_cons.2 ⟨⟨_,Go.Proofs.Tryz.func17,c17⟩,List.forall_mem_cons.2 ⟨⟨_,Go.Proofs.Tryz.func22,c22⟩,List.forall_mem_cons.2 ⟨⟨_,Go.Proofs.Tryz.func23,c23⟩,List.forall_mem_cons.2 ⟨⟨_,Go.Proofs.Tryz.func24,c24⟩,List.forall_mem_cons.2 ⟨⟨_,Go.Proofs.Tryz.func25,c25⟩,List.forall_mem_cons.2 ⟨⟨_,Go.Proofs.Tryz.func26,c26⟩,List.forall_mem_cons.2 ⟨⟨_,Go.Proofs.Tryz.func27,c27⟩,List.forall_mem_cons.2 ⟨⟨_,Go.Proofs.Tryz.func28,c28⟩,List.forall_mem_cons.2 ⟨⟨_,Go.Proofs.Tryz.func29,c29⟩,List.forall_mem_cons.2 ⟨⟨_,Go.Proofs.Tryz.func33,c33⟩,List.forall_mem_cons.2 ⟨⟨_,Go.Proofs.Tryz.func34,c34⟩,List.forall_mem_cons.2 ⟨⟨_,Go.Proofs.Tryz.func35,c35⟩,List.forall_mem_cons.2 ⟨⟨_,Go.Proofs.Tryz.func37,c37⟩,List.forall_mem_cons.2 ⟨⟨_,Go.Proofs.Tryz.func41,c41⟩,List.forall_mem_cons.2 ⟨⟨_,Go.Proofs.Tryz.func42,c42⟩,List.forall_mem_cons.2 ⟨⟨_,Go.Proofs.Tryz.func43,c43⟩,List.forall_mem_cons.2 ⟨⟨_,Go.Proofs.Tryz.func44,c44⟩,List.forall_mem_cons.2 ⟨⟨_,Go.Proofs.Tryz.func45,c45⟩,List.forall_mem_cons.2 ⟨⟨_,Go.Proofs.Tryz.func46,c46⟩,List.forall_mem_cons.2 ⟨⟨_,Go.Proofs.Tryz.func47,c47⟩,List.forall_mem_cons.2 ⟨⟨_,Go.Proofs.Tryz.func48,c48⟩,List.forall_mem_cons.2 ⟨⟨_,Go.Proofs.Tryz.func51,c51⟩,List.forall_mem_cons.2 ⟨⟨_,Go.Proofs.Tryz.func52,c52⟩,List.forall_mem_cons.2 ⟨⟨_,Go.Proofs.Tryz.func53,c53⟩,List.forall_mem_cons.2 ⟨⟨_,Go.Proofs.Tryz.func54,c54⟩,List.forall_mem_cons.2 ⟨⟨_,Go.Proofs.Tryz.func55,c55⟩,List.forall_mem_cons.2 ⟨⟨_,Go.Proofs.Tryz.func56,c56⟩,List.forall_mem_cons.2 ⟨⟨_,Go.Proofs.Tryz.func57,c57⟩,List.forall_mem_cons.2 ⟨⟨_,Go.Proofs.Tryz.func58,c58⟩,List.forall_mem_cons.2 ⟨⟨_,Go.Proofs.Tryz.func60,c60⟩,List.forall_mem_cons.2 ⟨⟨_,Go.Proofs.Tryz.func64,c64⟩,List.forall_mem_cons.2 ⟨⟨_,Go.Proofs.Tryz.func65,c65⟩,List.forall_mem_cons.2 ⟨⟨_,Go.Proofs.Tryz.func66,c66⟩,List.forall_mem_cons.2 ⟨⟨_,Go.Proofs.Tryz.func69,c69⟩,List.forall_mem_cons.2 ⟨⟨_,Go.Proofs.Tryz.func70,c70⟩,List.forall_mem_cons.2 ⟨⟨_,Go.Proofs.Tryz.func71,c71⟩,List.forall_mem_cons.2 ⟨⟨_,Go.Proofs.Tryz.func72,c72⟩,List.forall_mem_cons.2 ⟨⟨_,Go.Proofs.Tryz.func73,c73⟩,List.forall_mem_cons.2 ⟨⟨_,Go.Proofs.Tryz.func74,c74⟩,List.forall_mem_cons.2 ⟨⟨_,Go.Proofs.Tryz.func75,c75⟩,List.forall_mem_cons.2 ⟨⟨_,Go.Proofs.Tryz.func76,c76⟩,List.forall_mem_cons.2 ⟨⟨_,Go.Proofs.Tryz.func77,c77⟩,List.forall_mem_cons.2 ⟨⟨_,Go.Proofs.Tryz.func78,c78⟩,List.forall_mem_cons.2 ⟨⟨_,Go.Proofs.Tryz.func79,c79⟩,List.forall_mem_cons.2 ⟨⟨_,Go.Proofs.Tryz.func80,c80⟩,List.forall_mem_cons.2 ⟨⟨_,Go.Proofs.Tryz.func81,c81⟩,List.forall_mem_cons.2 ⟨⟨_,Go.Proofs.Tryz.func82,c82⟩,List.forall_mem_cons.2 ⟨⟨_,Go.Proofs.Tryz.func83,c83⟩,List.forall_mem_cons.2 ⟨⟨_,Go.Proofs.Tryz.func84,c84⟩,List.forall_mem_cons.2 ⟨⟨_,Go.Proofs.Tryz.func85,c85⟩,List.forall_mem_cons.2 ⟨⟨_,Go.Proofs.Tryz.func86,c86⟩,List.forall_mem_cons.2 ⟨⟨_,Go.Proofs.Tryz.func87,c87⟩,List.forall_mem_cons.2 ⟨⟨_,Go.Proofs.Tryz.func88,c88⟩,List.forall_mem_cons.2 ⟨⟨_,Go.Proofs.Tryz.func89,c89⟩,List.forall_mem_cons.2 ⟨⟨_,Go.Proofs.Tryz.func90,c90⟩,List.forall_mem_cons.2 ⟨⟨_,Go.Proofs.Tryz.func91,c91⟩,List.forall_mem_cons.2 ⟨⟨_,Go.Proofs.Tryz.func92,c92⟩,List.forall_mem_cons.2 ⟨⟨_,Go.Proofs.Tryz.func93,c93⟩,List.forall_mem_cons.2 ⟨⟨_,Go.Proofs.Tryz.func94,c94⟩,List.forall_mem_cons.2 ⟨⟨_,Go.Proofs.Tryz.func95,c95⟩,List.forall_mem_cons.2 ⟨⟨_,Go.Proofs.Tryz.func96,c96⟩,List.forall_mem_cons.2 ⟨⟨_,Go.Proofs.Tryz.func97,c97⟩,List.forall_mem_cons.2 ⟨⟨_,Go.Proofs.Tryz.func98,c98⟩,List.forall_mem_cons.2 ⟨⟨_,Go.Proofs.Tryz.func99,c99⟩,List.forall_mem_cons.2 ⟨⟨_,Go.Proofs.Tryz.func100,c100⟩,List.forall_mem_cons.2 ⟨⟨_,Go.Proofs.Tryz.func101,c101⟩,List.forall_mem_cons.2 ⟨⟨_,Go.Proofs.Tryz.func102,c102⟩,List.forall_mem_cons.2 ⟨⟨_,Go.Proofs.Tryz.func103,c103⟩,List.forall_mem_cons.2 ⟨⟨_,Go.Proofs.Tryz.func104,c104⟩,List.forall_mem_cons.2 ⟨⟨_,Go.Proofs.Tryz.func105,c105⟩,List.forall_mem_cons.2 ⟨⟨_,Go.Proofs.Tryz.func106,c106⟩,List.forall_mem_cons.2 ⟨⟨_,Go.Proofs.Tryz.func107,c107⟩,List.forall_mem_cons.2 ⟨⟨_,Go.Proofs.Tryz.func108,c108⟩,List.forall_mem_cons.2 ⟨⟨_,Go.Proofs.Tryz.func109,c109⟩,List.forall_mem_cons.2 ⟨⟨_,Go.Proofs.Tryz.func110,c110⟩,List.forall_mem_cons.2 ⟨⟨_,Go.Proofs.Tryz.func111,c111⟩,List.forall_mem_cons.2 ⟨⟨_,Go.Proofs.Tryz.func112,c112⟩,List.forall_mem_cons.2 ⟨⟨_,Go.Proofs.Tryz.func113,c113⟩,List.forall_mem_cons.2 ⟨⟨_,Go.Proofs.Tryz.func114,c114⟩,List.forall_mem_cons.2 ⟨⟨_,Go.Proofs.Tryz.func115,c115⟩,List.forall_mem_cons.2 ⟨⟨_,Go.Proofs.Tryz.func116,c116⟩,List.forall_mem_cons.2 ⟨⟨_,Go.Proofs.Tryz.func117,c117⟩,List.forall_mem_cons.2 ⟨⟨_,Go.Proofs.Tryz.func118,c118⟩,List.forall_mem_cons.2 ⟨⟨_,Go.Proofs.Tryz.func119,c119⟩,fun p hp => by cases hp⟩⟩⟩⟩⟩⟩⟩⟩⟩⟩⟩⟩⟩⟩⟩⟩⟩⟩⟩⟩⟩⟩⟩⟩⟩⟩⟩⟩⟩⟩⟩⟩⟩⟩⟩⟩⟩⟩⟩⟩⟩⟩⟩⟩⟩⟩⟩⟩⟩⟩⟩⟩⟩⟩⟩⟩⟩⟩⟩⟩⟩⟩⟩⟩⟩⟩⟩⟩⟩⟩⟩⟩⟩⟩⟩⟩⟩⟩⟩⟩⟩⟩⟩⟩⟩⟩⟩⟩
  simp only [TA,Option.map_eq_some_iff] at h
  obtain ⟨p,hp,rfl⟩ := h
  have hm := List.mem_of_find?_eq_some hp
  have hf := List.find?_some hp
  have : p.1 = f := by simpa using hf
  subst this
  exact key p hm
def colO (_ : Value) (_ : List Value) (_ : AHeap) : Option Value := none
end Go.Lq

namespace Go.Lq
open Go
def nth : Nat → RCode → RCode
  | 0,.seq a _ => a
  | n + 1,.seq _ b => nth n b
  | _,c => c
def H0 : AHeap := []
def E0 : Env := List.replicate 38 undef
end Go.Lq

namespace Go.Lq
open Go
def E1 : Env :=
  [(.bool false),(.tuple #[]),(.tuple #[]),(.tuple #[]),(.tuple #[]),(.tuple #[]),(.tuple #[]),(.tuple #[]),(.tuple #[]),(.tuple #[]),(.tuple #[]),(.tuple #[]),(.tuple #[]),(.tuple #[]),(.tuple #[]),(.tuple #[]),(.tuple #[]),(.tuple #[]),(.tuple #[]),(.tuple #[]),(.tuple #[]),(.tuple #[]),(.tuple #[]),(.tuple #[]),(.tuple #[]),(.tuple #[]),(.tuple #[]),(.tuple #[]),(.tuple #[]),(.tuple #[]),(.tuple #[]),(.tuple #[]),(.tuple #[]),(.tuple #[]),(.tuple #[]),(.tuple #[]),(.tuple #[]),(.tuple #[])]
def H1 : AHeap :=
  []
def E2 : Env :=
  [(.bool false),(.slice (some ⟨5,0,none⟩) 2 2),(.int .i64 0),(.int .i64 0),(.tuple #[]),(.tuple #[]),(.tuple #[(.slice (some ⟨5,0,none⟩) 2 2),(.int .i64 0),(.int .i64 0)]),(.agg #[(.slice (some ⟨4,0,none⟩) 3 3),(.int .i64 4),(.int .i64 2),(.int .i64 3)]),(.tuple #[(.slice (some ⟨5,0,none⟩) 2 2),(.int .i64 0),(.int .i64 0)]),(.slice (some ⟨5,0,none⟩) 2 2),(.int .i64 0),(.int .i64 0),(.tuple #[]),(.tuple #[]),(.tuple #[]),(.tuple #[]),(.tuple #[]),(.tuple #[]),(.tuple #[]),(.tuple #[]),(.tuple #[]),(.tuple #[]),(.tuple #[]),(.tuple #[]),(.tuple #[]),(.tuple #[]),(.tuple #[]),(.tuple #[]),(.tuple #[]),(.tuple #[]),(.tuple #[]),(.tuple #[]),(.tuple #[]),(.tuple #[]),(.tuple #[]),(.tuple #[]),(.tuple #[]),(.tuple #[])]
def H2 : AHeap :=
  [(.cells true 0 [(.slice (some ⟨4,0,none⟩) 3 3),(.int .i64 4),(.int .i64 2),(.int .i64 3)]),(.cells true 1 [(.int .i64 5),(.int .i64 9),(.int .i64 5),(.int .i64 5)]),(.cells true 1 [(.int .i64 0),(.int .i64 5),(.int .i64 5),(.int .i64 5),(.int .i64 9)]),(.cells true 1 [(.int .i64 5),(.int .i64 5),(.int .i64 5),(.int .i64 5)]),(.cells true 3 [(.string ⟨#[120]⟩),(.int .i64 0),(.slice (some ⟨1,0,none⟩) 4 4),(.string ⟨#[121]⟩),(.int .i64 1),(.slice (some ⟨2,0,none⟩) 5 5),(.string ⟨#[122]⟩),(.int .i64 0),(.slice (some ⟨3,0,none⟩) 4 4)]),(.cells true 1 [(.string ⟨#[122]⟩),(.string ⟨#[122]⟩)])]
def E3 : Env :=
  [(.bool false),(.slice (some ⟨5,0,none⟩) 2 2),(.int .i64 0),(.int .i64 0),(.pointer (some ⟨8,0,none⟩)),(.int .i64 0),(.tuple #[(.slice (some ⟨5,0,none⟩) 2 2),(.int .i64 0),(.int .i64 0)]),(.agg #[(.slice (some ⟨4,0,none⟩) 3 3),(.int .i64 4),(.int .i64 2),(.int .i64 3)]),(.tuple #[(.slice (some ⟨5,0,none⟩) 2 2),(.int .i64 0),(.int .i64 0)]),(.slice (some ⟨5,0,none⟩) 2 2),(.int .i64 0),(.int .i64 0),(.tuple #[(.agg #[(.int .i64 1),(.int .i64 14),(.int .i64 6)]),(.int .i64 0)]),(.slice (some ⟨6,0,none⟩) 3 3),(.slice (some ⟨7,0,none⟩) 4 4),(.tuple #[(.agg #[(.int .i64 1),(.int .i64 14),(.int .i64 6)]),(.int .i64 0)]),(.agg #[(.int .i64 1),(.int .i64 14),(.int .i64 6)]),(.int .i64 0),(.tuple #[]),(.tuple #[]),(.tuple #[]),(.tuple #[]),(.tuple #[]),(.tuple #[]),(.tuple #[]),(.tuple #[]),(.tuple #[]),(.tuple #[]),(.tuple #[]),(.tuple #[]),(.tuple #[]),(.tuple #[]),(.tuple #[]),(.tuple #[]),(.tuple #[]),(.tuple #[]),(.tuple #[]),(.tuple #[])]
def H3 : AHeap :=
  [(.cells true 0 [(.slice (some ⟨4,0,none⟩) 3 3),(.int .i64 4),(.int .i64 2),(.int .i64 3)]),(.cells true 1 [(.int .i64 5),(.int .i64 9),(.int .i64 5),(.int .i64 5)]),(.cells true 1 [(.int .i64 0),(.int .i64 5),(.int .i64 5),(.int .i64 5),(.int .i64 9)]),(.cells true 1 [(.int .i64 5),(.int .i64 5),(.int .i64 5),(.int .i64 5)]),(.cells true 3 [(.string ⟨#[120]⟩),(.int .i64 0),(.slice (some ⟨1,0,none⟩) 4 4),(.string ⟨#[121]⟩),(.int .i64 1),(.slice (some ⟨2,0,none⟩) 5 5),(.string ⟨#[122]⟩),(.int .i64 0),(.slice (some ⟨3,0,none⟩) 4 4)]),(.cells true 1 [(.string ⟨#[122]⟩),(.string ⟨#[122]⟩)]),(.cells true 1 [(.int .i64 1),(.int .i64 2),(.int .i64 3)]),(.cells true 1 [(.int .i64 0),(.int .i64 1),(.int .i64 2),(.int .i64 3)]),(.cells true 0 [(.int .i64 1),(.int .i64 14),(.int .i64 6)])]
def E4 : Env :=
  [(.bool true),(.slice (some ⟨5,0,none⟩) 2 2),(.int .i64 0),(.int .i64 0),(.pointer (some ⟨8,0,none⟩)),(.int .i64 0),(.tuple #[(.slice (some ⟨5,0,none⟩) 2 2),(.int .i64 0),(.int .i64 0)]),(.agg #[(.slice (some ⟨4,0,none⟩) 3 3),(.int .i64 4),(.int .i64 2),(.int .i64 3)]),(.tuple #[(.slice (some ⟨5,0,none⟩) 2 2),(.int .i64 0),(.int .i64 0)]),(.slice (some ⟨5,0,none⟩) 2 2),(.int .i64 0),(.int .i64 0),(.tuple #[(.agg #[(.int .i64 1),(.int .i64 14),(.int .i64 6)]),(.int .i64 0)]),(.slice (some ⟨6,0,none⟩) 3 3),(.slice (some ⟨7,0,none⟩) 4 4),(.tuple #[(.agg #[(.int .i64 1),(.int .i64 14),(.int .i64 6)]),(.int .i64 0)]),(.agg #[(.int .i64 1),(.int .i64 14),(.int .i64 6)]),(.int .i64 0),(.int .i64 0),(.bool true),(.bool true),(.int .i64 0),(.bool true),(.bool true),(.bool true),(.slice (some ⟨5,0,none⟩) 2 2),(.slice (some ⟨9,0,none⟩) 2 2),(.bool true),(.bool true),(.bool true),(.int .i64 0),(.bool true),(.bool true),(.bool true),(.pointer (some ⟨8,0,none⟩)),(.int .i64 1),(.bool true),(.bool true)]
def H4 : AHeap :=
  [(.cells true 0 [(.slice (some ⟨4,0,none⟩) 3 3),(.int .i64 4),(.int .i64 2),(.int .i64 3)]),(.cells true 1 [(.int .i64 5),(.int .i64 9),(.int .i64 5),(.int .i64 5)]),(.cells true 1 [(.int .i64 0),(.int .i64 5),(.int .i64 5),(.int .i64 5),(.int .i64 9)]),(.cells true 1 [(.int .i64 5),(.int .i64 5),(.int .i64 5),(.int .i64 5)]),(.cells true 3 [(.string ⟨#[120]⟩),(.int .i64 0),(.slice (some ⟨1,0,none⟩) 4 4),(.string ⟨#[121]⟩),(.int .i64 1),(.slice (some ⟨2,0,none⟩) 5 5),(.string ⟨#[122]⟩),(.int .i64 0),(.slice (some ⟨3,0,none⟩) 4 4)]),(.cells true 1 [(.string ⟨#[122]⟩),(.string ⟨#[122]⟩)]),(.cells true 1 [(.int .i64 1),(.int .i64 2),(.int .i64 3)]),(.cells true 1 [(.int .i64 0),(.int .i64 1),(.int .i64 2),(.int .i64 3)]),(.cells true 0 [(.int .i64 1),(.int .i64 14),(.int .i64 6)]),(.cells true 1 [(.string ⟨#[122]⟩),(.string ⟨#[122]⟩)])]
theorem awake0 : run TA colO 3000 (.code (nth 0 R4.code) none E0) H0 = some (.normal,E1,H1,1000000000000) := by kernel_rfl
theorem awake1 : run TA colO 3000 (.code (nth 1 R4.code) none E1) H1 = some (.normal,E2,H2,0) := by kernel_rfl
theorem awake2 : run TA colO 3000 (.code (nth 2 R4.code) none E2) H2 = some (.normal,E3,H3,8) := by kernel_rfl
theorem awake3 : run TA colO 3000 (.code (nth 3 R4.code) none E3) H3 = some (.normal,E4,H4,1000000000000) := by kernel_rfl
end Go.Lq

namespace Go.Lq
open Go
theorem soundO : SoundO Go.Proofs.Tryz.prog colO := by
  intro fv args B v h N
  cases h
theorem awp_run {n : Nat} {c : RCode} {ar : Option Nat} {e e' : Env} {H H' : AHeap} {x : AExit} {lo : Nat} {Q : AExit → Env → AHeap → Prop}
    (h : run TA colO n (.code c ar e) H = some (x,e',H',lo)) (k : Q x e' H') : AWP Go.Proofs.Tryz.prog ar c Q e H :=
  CodeSound.awp (run_sound mo soundTA soundO n _ _ _ _ _ _ h).2 k
theorem awake0_c : ACall Go.Proofs.Tryz.prog 4 [] H0 fun v H => v = .bool true ∧ H = H0 := by
  refine ACall.drop (.bool _) ?_
  refine a4 ?_
  show AWP _ _ _ _ E0 H0
  refine awp_seq (awp_run awake0 ?_)
  refine awp_seq (awp_run awake1 ?_)
  refine awp_seq (awp_run awake2 ?_)
  refine awp_seq (awp_run awake3 ?_)
  refine awp_ret ?_
  refine fin_1 ⟨rfl,?_⟩
  exact ⟨H4,rfl⟩
theorem own0 : OwnHeap H0 := by
  intro i x hx
  simp [H0] at hx
theorem globals_size : Go.Proofs.Tryz.prog.globals.size = 0 := by kernel_rfl
theorem shown_c {H : AHeap} : ACall Go.Proofs.Tryz.prog 4 [] H fun v H' => v = .bool true ∧ H' = H := by
  have := ACall.frame (by rw [globals_size]; decide) own0 (fun x hx => by cases hx) (.bool _) awake0_c H
  simpa [H0] using this
end Go.Lq

namespace Go.Lq
open Go Go.ChangeShapes Go.WideShapes Go.ChangeAt Go.RowKit
open Go.Proofs
theorem returnsInHanded_of_plain_shaped {Z : Type} {enc : TypeId × Value → Z} {a : Assume} {C : Checked} {os : Os} {f : FuncId} {fn : Func} {s : ChangeSpec} {conds : List PathCond} {apart fresh handsOn again : Bool}
    (own : ownKnob C.prog.godebug = none) (started : os.Started) (noInit : C.prog.inits.idxOf? f = none) (hfn : C.prog.funcs[f]? = some fn)
    (witness : ∃ (w : World) (tape : Tape) (i : Input),w.os = os ∧ (w.forCall tape i).Shaped C.prog ∧ i.vars = [] ∧ Input.okWide C.prog (w.forCall tape i) .any w.heap.size f i ∧
      s.pre6 enc C.prog fn conds apart (w.forCall tape i).memory i.args ∧ a.holds C.prog (lone (Frame.enter C.prog f i.args .normal) [] (w.forCall tape i)))
    (contract : ∀ (W : World) (base : Nat) (args : Array Value) (ds gs : List (DataW Z)) (before : List MemPlace),W.ShapedOpen C.prog →
      (∀ (j : Nat) t v,fn.params[j]? = some t → args[j]? = some v → Value.okWide C.prog W .any base t v) →
      DataW.Whole enc C.prog fn.params.toList s.vars apart W args.toList ds gs before →
      Calls C.prog f args W fun e W' => ∃ v,e = .returned v ∧ s.post enc C.prog fn apart fresh handsOn again W args v W') :
    ReturnsInHanded a C os f .any (s.pre6 enc C.prog fn conds apart) (s.post enc C.prog fn apart fresh handsOn again) := by
  refine returnsInHanded_of_calls own started noInit witness ?_
  intro w tape i _ hsh _ hok hpre _
  obtain ⟨_,_,_,fn',hfn',_,_,_,_,hval⟩ := hok
  obtain rfl : fn' = fn := Option.some.inj (hfn'.symm.trans hfn)
  obtain ⟨⟨ds,gs,before,hw,_⟩,_⟩ := hpre
  have hw' := DataW.Whole.of_heap (w' := w.forCall tape i) (by rfl) hw
  refine (contract (w.forCall tape i) w.heap.size i.args ds gs before hsh hval hw').mono fun e W' ⟨v,he,hp⟩ => ?_
  subst he
  exact ChangeSpec.post_blind hp
theorem own_knob : ownKnob Tryz.prog.godebug = none := by kernel_rfl
theorem laid_out : laidOutB Tryz.prog = true := by kernel_rfl
theorem may_enter : Tryz.prog.mayEnter = true := by kernel_rfl
theorem stops_heard : Tryz.prog.stopsHeard = true := by kernel_rfl
theorem maps_rowed : mapsRowed Tryz.prog = true := by kernel_rfl
theorem of_shaped {W : World} (_ : W.ShapedOpen Tryz.prog) : Laid W [] H0 := Laid.none W
theorem globs : Tryz.prog.globals.size ≤ H0.length := by rw [globals_size]; decide
theorem glob_at : ∀ g,g < Tryz.prog.globals.size → ∃ r,([] : List ALoc)[g]? = some ⟨g,0,r + 64⟩ := fun g hg => by
  rw [globals_size] at hg
  omega
end Go.Lq

namespace Go.Lq
open Go Go.ChangeShapes Go.WideShapes Go.ChangeAt Go.RowKit
open Go.Proofs
theorem lifts_final : Tryz.prog.liftsFinal = YtpgemmklfaedfacGreat.Rows.topJoinChangesRow.lifted := by kernel_rfl
theorem make_is : Tryz.prog.make = some YtpgemmklfaedfacGreat.Rows.topJoinChangesRow.make := by kernel_rfl
end Go.Lq

namespace Go.Lq
open Go
def insI (x : Int) : List Int → List Int
  | [] => [x]
  | a :: l => if x ≤ a then x :: a :: l else a :: insI x l
def sortI : List Int → List Int
  | [] => []
  | x :: l => insI x (sortI l)
theorem insI_perm (x : Int) : ∀ l : List Int,(insI x l).Perm (x :: l)
  | [] => List.Perm.refl _
  | a :: l => by
    unfold insI
    split
    · exact List.Perm.refl _
    · exact ((insI_perm x l).cons a).trans (List.Perm.swap x a l)
theorem sortI_perm : ∀ l : List Int,(sortI l).Perm l
  | [] => List.Perm.refl _
  | x :: l => (insI_perm x (sortI l)).trans ((sortI_perm l).cons x)
theorem insI_srt (x : Int) : ∀ l : List Int,l.Pairwise (· ≤ ·) → (insI x l).Pairwise (· ≤ ·)
  | [],_ => by simp [insI]
  | a :: l,h => by
    unfold insI
    obtain ⟨h1,h2⟩ := List.pairwise_cons.1 h
    split
    · rename_i hxa
      refine List.pairwise_cons.2 ⟨fun b hb => ?_,h⟩
      rcases List.mem_cons.1 hb with rfl | hb
      · exact hxa
      · exact Int.le_trans hxa (h1 b hb)
    · rename_i hxa
      refine List.pairwise_cons.2 ⟨fun b hb => ?_,insI_srt x l h2⟩
      rcases List.mem_cons.1 ((insI_perm x l).mem_iff.1 hb) with rfl | hb
      · omega
      · exact h1 b hb
theorem sortI_srt : ∀ l : List Int,(sortI l).Pairwise (· ≤ ·)
  | [] => List.Pairwise.nil
  | x :: l => insI_srt x _ (sortI_srt l)
theorem srt_eq : ∀ {l l' : List Int},l.Perm l' → l.Pairwise (· ≤ ·) → l'.Pairwise (· ≤ ·) → l = l'
  | [],l',hp,_,_ => (List.Perm.nil_eq hp)
  | a :: t,[],hp,_,_ => absurd hp.length_eq (by simp)
  | a :: t,b :: t',hp,h,h' => by
    obtain ⟨h1,h2⟩ := List.pairwise_cons.1 h
    obtain ⟨h1',h2'⟩ := List.pairwise_cons.1 h'
    have e : a = b := by
      rcases List.mem_cons.1 (hp.mem_iff.1 (List.mem_cons_self ..)) with e | hm
      · exact e
      · rcases List.mem_cons.1 (hp.mem_iff.2 (List.mem_cons_self ..)) with e | hm'
        · exact e.symm
        · have := h1 b hm'
          have := h1' a hm
          omega
    subst e
    rw [srt_eq (List.Perm.cons_inv hp) h2 h2']
def swapA : Nat → List Int → List Int
  | 0,a :: b :: l => b :: a :: l
  | n + 1,a :: l => a :: swapA n l
  | _,l => l
theorem swapA_perm : ∀ (n : Nat) (l : List Int),(swapA n l).Perm l
  | 0,a :: b :: l => List.Perm.swap a b l
  | n + 1,a :: l => (swapA_perm n l).cons a
  | 0,[] => List.Perm.refl _
  | 0,[_] => List.Perm.refl _
  | _ + 1,[] => List.Perm.refl _
theorem swapA_set : ∀ (n : Nat) (l : List Int),n + 1 < l.length → (l.set (n + 1) (l.getD n 0)).set n (l.getD (n + 1) 0) = swapA n l
  | 0,a :: b :: l,_ => rfl
  | n + 1,a :: l,h => by
    simp only [List.set_cons_succ,List.getD_cons_succ,swapA]
    rw [swapA_set n l (by simpa using h)]
theorem swapA_len (n : Nat) (l : List Int) : (swapA n l).length = l.length := (swapA_perm n l).length_eq
theorem swapA_getD {n i : Nat} {l : List Int} (h : n + 1 < l.length) : (swapA n l).getD i 0 = if i = n then l.getD (n + 1) 0 else if i = n + 1 then l.getD n 0 else l.getD i 0 := by
  rw [← swapA_set n l h]
  simp only [List.getD_eq_getElem?_getD,List.getElem?_set]
  by_cases h1 : i = n
  · subst h1
    rw [if_pos rfl,if_pos (by simp; omega),if_pos rfl]
    rfl
  · rw [if_neg (fun e => h1 e.symm),if_neg h1]
    by_cases h2 : i = n + 1
    · subst h2
      rw [if_pos rfl,if_pos h,if_pos rfl]
      rfl
    · rw [if_neg (fun e => h2 e.symm),if_neg h2]
def InsAt (l : List Int) (i j : Nat) : Prop := (∀ a b,a < b → b ≤ i → a ≠ j → b ≠ j → l.getD a 0 ≤ l.getD b 0) ∧ ∀ b,j < b → b ≤ i → l.getD j 0 ≤ l.getD b 0
def Fst (l : List Int) (i : Nat) : Prop := ∀ a b,a < b → b < i → l.getD a 0 ≤ l.getD b 0
theorem InsAt.start {l : List Int} {i : Nat} (h : Fst l i) : InsAt l i i := ⟨fun a b hab hb ha hbi => h a b hab (by omega),fun b h1 h2 => by omega⟩
theorem InsAt.step {l : List Int} {i j : Nat} (h : InsAt l i (j + 1)) (hi : i < l.length) (hj : j + 1 ≤ i) (hlt : l.getD (j + 1) 0 < l.getD j 0) : InsAt (swapA j l) i j := by
  have hl : j + 1 < l.length := by omega
  refine ⟨fun a b hab hb ha hbj => ?_,fun b h1 h2 => ?_⟩
  · rw [swapA_getD hl,swapA_getD hl,if_neg ha,if_neg hbj]
    by_cases h3 : a = j + 1
    · rw [if_pos h3,if_neg (by omega)]
      exact h.1 j b (by omega) hb (by omega) (by omega)
    · rw [if_neg h3]
      by_cases h4 : b = j + 1
      · rw [if_pos h4]
        exact h.1 a j (by omega) (by omega) h3 (by omega)
      · rw [if_neg h4]
        exact h.1 a b hab hb h3 h4
  · rw [swapA_getD hl,swapA_getD hl,if_pos rfl,if_neg (by omega)]
    by_cases h4 : b = j + 1
    · rw [if_pos h4]; omega
    · rw [if_neg h4]
      exact h.2 b (by omega) h2
theorem InsAt.done {l : List Int} {i j : Nat} (h : InsAt l i j) (hj : j ≤ i) (he : j = 0 ∨ l.getD (j - 1) 0 ≤ l.getD j 0) : Fst l (i + 1) := fun a b hab hb => by
  by_cases h1 : a = j
  · subst h1; exact h.2 b hab (by omega)
  · by_cases h2 : b = j
    · subst h2
      rcases he with he | he
      · omega
      · by_cases h3 : a = b - 1
        · rw [h3]; exact he
        · exact Int.le_trans (h.1 a (b - 1) (by omega) (by omega) h1 (by omega)) he
    · exact h.1 a b hab (by omega) h1 h2
theorem Fst.srt {l : List Int} (h : Fst l l.length) : l.Pairwise (· ≤ ·) := List.pairwise_iff_getElem.2 fun i j hi hj hij => by
  have := h i j hij hj
  rwa [List.getD_eq_getElem?_getD,List.getD_eq_getElem?_getD,List.getElem?_eq_getElem hi,List.getElem?_eq_getElem hj] at this
theorem Fst.eq {l l0 : List Int} (h : Fst l l.length) (hp : l.Perm l0) : l = sortI l0 := srt_eq (hp.trans (sortI_perm l0).symm) h.srt (sortI_srt _)
def medI (l : List Int) : Int := ((sortI l).getD ((l.length - 1) / 2) 0 + (sortI l).getD (l.length / 2) 0) / 2
theorem sortI_len (l : List Int) : (sortI l).length = l.length := (sortI_perm l).length_eq
theorem sortI_bound {l : List Int} {b : Int} (hb : 0 ≤ b) (h : ∀ n ∈ l,-b ≤ n ∧ n ≤ b) (i : Nat) : -b ≤ (sortI l).getD i 0 ∧ (sortI l).getD i 0 ≤ b := by
  rw [List.getD_eq_getElem?_getD]
  by_cases hi : i < (sortI l).length
  · rw [List.getElem?_eq_getElem hi]
    exact h _ ((sortI_perm l).mem_iff.1 (List.getElem_mem hi))
  · rw [List.getElem?_eq_none (by omega)]
    simp; omega
theorem medI_bound {l : List Int} {b : Int} (hb : 0 ≤ b) (h : ∀ n ∈ l,-b ≤ n ∧ n ≤ b) : -b ≤ medI l ∧ medI l ≤ b := by
  have h1 := sortI_bound hb h ((l.length - 1) / 2)
  have h2 := sortI_bound hb h (l.length / 2)
  unfold medI
  omega
theorem medI_odd {l : List Int} (h : l.length % 2 = 1) : medI l = (sortI l).getD (l.length / 2) 0 := by
  unfold medI
  rw [show (l.length - 1) / 2 = l.length / 2 by omega]
  omega
theorem medI_even {l : List Int} (h : l.length % 2 = 0) : medI l = ((sortI l).getD (l.length / 2 - 1) 0 + (sortI l).getD (l.length / 2) 0) / 2 := by
  unfold medI
  rw [show (l.length - 1) / 2 = l.length / 2 - 1 by omega]
end Go.Lq

namespace Go.Lq
open Go
section
variable {H : AHeap}
theorem within_c (n lo hi : Int) : ACall Go.Proofs.Tryz.prog 42 [.int .i64 n,.int .i64 lo,.int .i64 hi] H fun v H' => v = .bool (decide (lo ≤ n ∧ n ≤ hi)) ∧ H' = H := by
  (refine a42 ?_; simp only [n42,List.replicate,yq,yr,yt,yu]; first | refine q1 ?_ | refine q2 ?_ | refine q6 ?_ | refine q7 ?_ | refine qh rfl ?_ | skip)
  refine yx ?_; (refine aops_until (by simp (disch:=first|exact zz|fail) only[go_sem]; with_reducible rfl) ?_); refine yx ?_
  by_cases h : lo ≤ n
  · (refine aops_until (by simp (disch:=first|exact zz|fail) only[go_sem,h]; with_reducible rfl) ?_)
    refine yx ?_
    refine fin_1 ⟨?_,rfl⟩
    simp [h]
  · (refine aops_until (by simp (disch:=first|exact zz|fail) only[go_sem,h]; with_reducible rfl) ?_)
    refine yx ?_
    refine fin_1 ⟨?_,rfl⟩
    simp [h]
theorem bwithin_c (n lo hi : Int) : ACall Go.Proofs.Tryz.prog 6 [.int .i64 n,.int .i64 lo,.int .i64 hi] H fun v H' => v = .bool (decide (lo ≤ n ∧ n ≤ hi)) ∧ H' = H := by
  (refine a6 ?_; simp only [n6,List.replicate,yq,yr,yt,yu]; first | refine q1 ?_ | refine q2 ?_ | refine q6 ?_ | refine q7 ?_ | refine qh rfl ?_ | skip)
  refine yx ?_; (refine aops_until (by simp (disch:=first|exact zz|fail) only[go_sem]; with_reducible rfl) ?_); refine yx ?_
  by_cases h : lo ≤ n
  · (refine aops_until (by simp (disch:=first|exact zz|fail) only[go_sem,h]; with_reducible rfl) ?_)
    refine yx ?_
    refine fin_1 ⟨?_,rfl⟩
    simp [h]
  · (refine aops_until (by simp (disch:=first|exact zz|fail) only[go_sem,h]; with_reducible rfl) ?_)
    refine yx ?_
    refine fin_1 ⟨?_,rfl⟩
    simp [h]
theorem isSized_c (n m : Int) (hm : -9223372036854775807 ≤ m ∧ m ≤ 9223372036854775807) : ACall Go.Proofs.Tryz.prog 37 [.int .i64 n,.int .i64 m] H fun v H' => v = .bool (decide (-m ≤ n ∧ n ≤ m)) ∧ H' = H := by
  (refine a37 ?_; simp only [n37,List.replicate,yq,yr,yt,yu]; first | refine q1 ?_ | refine q2 ?_ | refine q6 ?_ | refine q7 ?_ | refine qh rfl ?_ | skip)
  refine yx ?_; (refine aops_until (by simp (disch:=first|exact zz|fail) only[go_sem]; with_reducible rfl) ?_); refine yx ?_
  (refine aops_until (by simp (disch:=first|exact zz|fail) only[go_sem]; with_reducible rfl) ?_)
  refine aops_call_to (within_c _ _ _) ?_
  (refine aops_until (by simp (disch:=first|exact zz|fail) only[go_sem]; with_reducible rfl) ?_)
  refine yx ?_
  refine fin_1 ⟨?_,rfl⟩
  simp
theorem unless_c (b : Bool) (e : Int) : ACall Go.Proofs.Tryz.prog 34 [.bool b,.int .i64 e] H fun v H' => v = .int .i64 (if b then 0 else e) ∧ H' = H := by
  (refine a34 ?_; simp only [n34,List.replicate,yq,yr,yt,yu]; first | refine q1 ?_ | refine q2 ?_ | refine q6 ?_ | refine q7 ?_ | refine qh rfl ?_ | skip)
  refine yx ?_; (refine aops_until (by simp (disch:=first|exact zz|fail) only[go_sem]; with_reducible rfl) ?_); refine yx ?_; (refine aops_until (by simp (disch:=first|exact zz|fail) only[go_sem]; with_reducible rfl) ?_); refine yx ?_
  cases b with
  | true =>
    refine cond_t rfl ?_
    refine yx ?_; (refine aops_until (by simp (disch:=first|exact zz|fail) only[go_sem]; with_reducible rfl) ?_); refine yx ?_
    exact fin_1 ⟨rfl,rfl⟩
  | false =>
    refine cond_f rfl ?_
    refine yx ?_; (refine aops_until (by simp (disch:=first|exact zz|fail) only[go_sem]; with_reducible rfl) ?_); refine yx ?_
    exact fin_1 ⟨rfl,rfl⟩
def firstErr (l : List Int) : Int := (l.find? (fun e => decide (e ≠ 0))).getD 0
theorem firstErr_nil : firstErr [] = 0 := rfl
theorem firstErr_z (l : List Int) : firstErr (0 :: l) = firstErr l := by simp [firstErr]
theorem firstErr_e {e : Int} (h : e ≠ 0) (l : List Int) : firstErr (e :: l) = e := by simp [firstErr,h]
theorem ite_tt {α : Type} (a b : α) : (if true = true then a else b) = a := rfl
theorem ite_ft {α : Type} (a b : α) : (if false = true then a else b) = b := rfl
attribute [go_sem] firstErr_nil firstErr_z firstErr_e ite_tt ite_ft if_true if_false
theorem first_c {l : List Int} {v : Value} (hl : Ints H l v) (hb : l.length ≤ 1000000) : ACall Go.Proofs.Tryz.prog 33 [v] H fun v H' => v = .int .i64 (firstErr l) ∧ H' = H := by
  (refine a33 ?_; simp only [n33,List.replicate,yq,yr,yt,yu]; first | refine q1 ?_ | refine q2 ?_ | refine q6 ?_ | refine q7 ?_ | refine qh rfl ?_ | skip)
  refine yx ?_; (refine aops_until (by simp (disch:=first|exact zz|fail) only[go_sem]; with_reducible rfl) ?_); refine yx ?_; (refine aops_until (by simp (disch:=first|exact zz|fail) only[go_sem,hl.len,hl.idx,hl.load]; with_reducible rfl) ?_); refine yx ?_
  refine awp_loop_n [true,false,true,false,false,true,true,true,false,false,false,false,false,false,false] l.length (fun i e H' => H' = H ∧ e = [v,junk,.int .i64 0,junk,junk,v,.int .i64 l.length,.int .i64 i,junk,junk,junk,junk,junk,junk,junk] ∧ ∀ j < i,l.getD j 0 = 0) ?_ ?_
  · exact ⟨rfl,rfl,by omega⟩
  · rintro i e H' hi ⟨rfl,rfl,hp⟩
    refine yx ?_; (refine aops_until (by simp (disch:=first|exact zz|fail) only[go_sem,hl.len,hl.idx,hl.load]; with_reducible rfl) ?_); refine yx ?_
    refine cond_p rfl (fun hlt => ?_) (fun hge => ?_)
    · refine yx ?_; (refine aops_until (by simp (disch:=first|exact zz|fail) only[go_sem,hl.len,hl.idx,hl.load]; with_reducible rfl) ?_); refine yx ?_; (refine aops_until (by simp (disch:=first|exact zz|fail) only[go_sem]; with_reducible rfl) ?_); refine yx ?_
      refine cond_p rfl (fun hne => ?_) (fun heq => ?_)
      · refine yx ?_; (refine aops_until (by simp (disch:=first|exact zz|fail) only[go_sem]; with_reducible rfl) ?_); refine yx ?_
        refine fin_1 ⟨?_,rfl⟩
        unfold firstErr
        rw [find_at (d := 0) (i := i) (by omega) (fun j hj => by simpa using hp j hj) (by simpa using hne)]
        rfl
      · refine yx ?_; (refine aops_until (by simp (disch:=first|exact zz|fail) only[go_sem]; with_reducible rfl) ?_); refine yx ?_
        refine ⟨by omega,rfl,?_,fun j hj => ?_⟩
        · simp [forget]
        · by_cases h : j = i
          · subst h; simpa using heq
          · exact hp j (by omega)
    · refine yx ?_; (refine aops_until (by simp (disch:=first|exact zz|fail) only[go_sem]; with_reducible rfl) ?_); refine yx ?_
      refine fin_1 ⟨?_,rfl⟩
      unfold firstErr
      rw [find_none (d := 0) (fun j hj => by simpa using hp j (by omega))]
      rfl
def Asks (fv : Value) (p : Int → Bool) : Prop := ∀ n H,AInvoke Go.Proofs.Tryz.prog fv [.int .i64 n] H fun v H' => v = .bool (p n) ∧ H' = H
theorem indexFunc_c {l : List Int} {v fv : Value} {p : Int → Bool} (hl : Ints H l v) (hf : Asks fv p) (hb : l.length ≤ 1000000000) :
    ACall Go.Proofs.Tryz.prog 60 [v,fv] H fun v H' => (∃ i : Int,v = .int .i64 i ∧ (l.any p = decide (0 ≤ i))) ∧ H' = H := by
  (refine a60 ?_; simp only [n60,List.replicate,yq,yr,yt,yu]; first | refine q1 ?_ | refine q2 ?_ | refine q6 ?_ | refine q7 ?_ | refine qh rfl ?_ | skip)
  refine yx ?_; (refine aops_until (by simp (disch:=first|exact zz|fail) only[go_sem]; with_reducible rfl) ?_); refine yx ?_; (refine aops_until (by simp (disch:=first|exact zz|fail) only[go_sem,hl.len,hl.idx,hl.load]; with_reducible rfl) ?_); refine yx ?_
  refine awp_loop_n [true,true,false,false,true,false,true,true,true,false,false,false,false,false,false,false,false,false,false] l.length (fun i e H' => H' = H ∧ e = [v,fv,junk,junk,.int .i64 0,junk,v,.int .i64 l.length,.int .i64 i,junk,junk,junk,junk,junk,junk,junk,junk,junk,junk] ∧ ∀ j < i,p (l.getD j 0) = false) ?_ ?_
  · exact ⟨rfl,rfl,by omega⟩
  · rintro i e H' hi ⟨rfl,rfl,hp⟩
    refine yx ?_; (refine aops_until (by simp (disch:=first|exact zz|fail) only[go_sem,hl.len,hl.idx,hl.load]; with_reducible rfl) ?_); refine yx ?_
    refine cond_p rfl (fun hlt => ?_) (fun hge => ?_)
    · refine yx ?_; (refine aops_until (by simp (disch:=first|exact zz|fail) only[go_sem,hl.len,hl.idx,hl.load]; with_reducible rfl) ?_); refine yx ?_; (refine aops_until (by simp (disch:=first|exact zz|fail) only[go_sem,hl.len,hl.idx,hl.load]; with_reducible rfl) ?_)
      refine aops_call_to (hf _ _) ?_
      (refine aops_until (by simp (disch:=first|exact zz|fail) only[go_sem]; with_reducible rfl) ?_); refine yx ?_
      cases hq : p (l.getD i 0) with
      | true =>
        refine cond_t (by rw [← hq]; rfl) ?_
        refine yx ?_; (refine aops_until (by simp (disch:=first|exact zz|fail) only[go_sem]; with_reducible rfl) ?_); refine yx ?_
        refine fin_1 ⟨⟨i,rfl,?_⟩,rfl⟩
        rw [any_at (d := 0) (i := i) (by omega) hq]
        simp
      | false =>
        refine cond_f (by rw [← hq]; rfl) ?_
        refine yx ?_; (refine aops_until (by simp (disch:=first|exact zz|fail) only[go_sem]; with_reducible rfl) ?_); refine yx ?_
        refine ⟨by omega,rfl,?_,fun j hj => ?_⟩
        · simp [forget]
        · by_cases h : j = i
          · subst h; exact hq
          · exact hp j (by omega)
    · refine yx ?_; (refine aops_until (by simp (disch:=first|exact zz|fail) only[go_sem]; with_reducible rfl) ?_); refine yx ?_
      refine fin_1 ⟨⟨-1,rfl,?_⟩,rfl⟩
      rw [any_none (d := 0) fun j hj => hp j (by omega)]
      simp
theorem containsFunc_c {l : List Int} {v fv : Value} {p : Int → Bool} (hl : Ints H l v) (hf : Asks fv p) (hb : l.length ≤ 1000000000) :
    ACall Go.Proofs.Tryz.prog 35 [v,fv] H fun v H' => v = .bool (l.any p) ∧ H' = H := by
  (refine a35 ?_; simp only [n35,List.replicate,yq,yr,yt,yu]; first | refine q1 ?_ | refine q2 ?_ | refine q6 ?_ | refine q7 ?_ | refine qh rfl ?_ | skip)
  refine yx ?_; (refine aops_until (by simp (disch:=first|exact zz|fail) only[go_sem]; with_reducible rfl) ?_); refine yx ?_; (refine aops_until (by simp (disch:=first|exact zz|fail) only[go_sem]; with_reducible rfl) ?_)
  refine aops_call ((indexFunc_c hl hf hb).mono fun v1 H1 ⟨⟨i,h1,h2⟩,h3⟩ => ?_)
  subst h1; subst h3
  (refine aops_until (by simp (disch:=first|exact zz|fail) only[go_sem]; with_reducible rfl) ?_); refine yx ?_
  refine fin_1 ⟨?_,rfl⟩
  simp [h2]
end
end Go.Lq

namespace Go.Lq
open Go
section
variable {H : AHeap}
theorem copyInts_c {l : List Int} {v : Value} (hl : Ints H l v) (hb : l.length ≤ 1000000000) :
    ACall Go.Proofs.Tryz.prog 38 [v] H fun v H1 => v = .slice (some ⟨H.length,0,none⟩) l.length l.length ∧ H1 = H ++ [.cells true 1 (l.map (.int .i64))] := by
  refine ACall.tidyE (f := id) (sz := 1) (n := l.length) (vs := l.map (.int .i64)) wraps_id (closed_ints l) ?_
  (refine a38 ?_; simp only [n38,List.replicate,yq,yr,yt,yu]; first | refine q1 ?_ | refine q2 ?_ | refine q6 ?_ | refine q7 ?_ | refine qh rfl ?_ | skip)
  rcases hl with ⟨h1,h2⟩
  rcases h2 with ⟨rfl,hn⟩ | ⟨id,off,c,rfl,hc⟩
  · have : l = [] := List.length_eq_zero_iff.1 hn
    subst this
    have ha : appendA 1 8 (H ++ [.cells true 1 []]) (.slice (some ⟨H.length,0,none⟩) 0 0) (.slice none 0 0) = some (.slice (some ⟨H.length,0,none⟩) 0 0,H ++ [.cells true 1 []]) := rfl
    (repeat(first|refine yw ?_|((first|apply yd|apply ye);simp (disch:=first|exact zz|fail) only[go_sem,ha];with_reducible rfl)))
    exact fin_1 ⟨_,H.length,rfl,⟨_,rfl⟩,rfl,Nat.le_refl _,by simp⟩
  · by_cases hn : l.length = 0
    · have : l = [] := List.length_eq_zero_iff.1 hn
      subst this
      have ha : appendA 1 8 (H ++ [.cells true 1 []]) (.slice (some ⟨H.length,0,none⟩) 0 0) (.slice (some ⟨id,off,none⟩) ([] : List Int).length c) = some (.slice (some ⟨H.length,0,none⟩) 0 0,H ++ [.cells true 1 []]) := rfl
      (repeat(first|refine yw ?_|((first|apply yd|apply ye);simp (disch:=first|exact zz|fail) only[go_sem,ha];with_reducible rfl)))
      exact fin_1 ⟨_,H.length,rfl,⟨_,rfl⟩,rfl,Nat.le_refl _,by simp⟩
    · have ha : appendA 1 8 (H ++ [.cells true 1 []]) (.slice (some ⟨H.length, 0, none⟩) 0 0) (.slice (some ⟨id, off, none⟩) l.length c) =
          some (.slice (some ⟨(H ++ [AObj.cells true 1 []]).length,0,none⟩) l.length l.length,(H ++ [.cells true 1 []]) ++ [.cells true 1 (l.map (.int .i64))]) := by
        obtain ⟨k,hk⟩ : ∃ k,l.length = k + 1 := ⟨l.length - 1,by omega⟩
        have hc' := cellsAt_ext ⟨[AObj.cells true 1 []],rfl⟩ (hc (by omega))
        have hr : roomOk 8 (0 + l.length) = true := roomOk_of (by omega) (by omega)
        rw [hk] at hc' hr ⊢
        simp only [appendA,hc',isAtom_ints,hr,and_self,if_true]
      (repeat(first|refine yw ?_|((first|apply yd|apply ye);simp (disch:=first|exact zz|fail) only[go_sem,ha];with_reducible rfl)))
      refine fin_1 ?_
      exact ⟨_,(H ++ [AObj.cells true 1 []]).length,rfl,⟨_,List.append_assoc _ _ _⟩,rfl,by simp,by simp⟩
theorem bsize_c (n : Int) (hn : -9223372036854775807 ≤ n ∧ n ≤ 9223372036854775807) : ACall Go.Proofs.Tryz.prog 63 [.int .i64 n] H fun v H' => v = .int .i64 (max n (-n)) ∧ H' = H := by
  (refine a63 ?_; simp only [n63,List.replicate,yq,yr,yt,yu]; first | refine q1 ?_ | refine q2 ?_ | refine q6 ?_ | refine q7 ?_ | refine qh rfl ?_ | skip)
  (refine yg ?_)
  refine fin_1 ⟨?_,rfl⟩
  simp
theorem bfloor_c (n b : Int) (hb : 0 < b ∧ b ≤ 1000000000) (hn : -4000000000000000000 ≤ n ∧ n ≤ 4000000000000000000) :
    ACall Go.Proofs.Tryz.prog 62 [.int .i64 n,.int .i64 b] H fun v H' => v = .int .i64 (n / b) ∧ H' = H := by
  have e1 : n.tdiv b = if 0 ≤ n ∨ b ∣ n then n / b else n / b + 1 := by
    rw [Int.tdiv_eq_ediv]
    have : b.sign = 1 := Int.sign_eq_one_of_pos hb.1
    rw [this]
    split <;> omega
  have e2 : n.tmod b = if 0 ≤ n ∨ b ∣ n then n % b else n % b - b := by
    rw [Int.tmod_eq_emod]
    split <;> omega
  have h1 := Int.emod_nonneg n (show b ≠ 0 by omega)
  have h2 := Int.emod_lt_of_pos n hb.1
  have hq : -4000000000000000000 ≤ n / b ∧ n / b ≤ 4000000000000000000 := by
    constructor
    · refine Int.le_ediv_of_mul_le hb.1 ?_
      have : (-4000000000000000000 : Int) * b ≤ -4000000000000000000 * 1 := Int.mul_le_mul_of_nonpos_left (by omega) (by omega)
      omega
    · by_cases h : 0 ≤ n
      · exact Int.le_trans (Int.ediv_le_self _ h) hn.2
      · have := Int.ediv_neg_of_neg_of_pos (by omega : n < 0) hb.1
        omega
  have hq2 : -4000000000000000001 ≤ n.tdiv b ∧ n.tdiv b ≤ 4000000000000000001 := by rw [e1]; split <;> omega
  (refine a62 ?_; simp only [n62,List.replicate,yq,yr,yt,yu]; first | refine q1 ?_ | refine q2 ?_ | refine q6 ?_ | refine q7 ?_ | refine qh rfl ?_ | skip)
  (refine yg ?_)
  refine cond_p rfl (fun hneg => ?_) (fun hpos => ?_)
  · (refine yg ?_)
    refine fin_1 ⟨?_,rfl⟩
    rw [e2] at hneg
    rw [e1]
    split at hneg
    · omega
    · rename_i h
      rw [if_neg h]
      simp
  · (refine yg ?_)
    refine fin_1 ⟨?_,rfl⟩
    rw [e2] at hpos
    rw [e1]
    split at hpos
    · rename_i h; rw [if_pos h]; rfl
    · omega
end
theorem firstD {P : Program} {G : AHeap} {f : FuncId} {args : List Value} {v : Value} (h : ACall P f args G fun v1 H1 => v1 = v ∧ H1 = G) : ACall P f args G fun v1 H1 => v1 = v ∧ H1 = G ++ [] :=
  h.mono fun _ _ ⟨a,b⟩ => ⟨a,by simp [b]⟩
end Go.Lq


namespace Go.Lq
open Go
open Go.Proofs
section
variable {H : AHeap}
theorem copyLists_c {ll : List (List Int)} {vs : List Value} {v : Value} (hL : Lists H ll vs v) (hb : ll.length ≤ 1000000) (hr : ∀ i,i < ll.length → (ll.getD i []).length ≤ 1000000) :
    ACall Go.Proofs.Tryz.prog 12 [v] H fun v' H' => OwnL H H' ll v' ∧ Ext H H' := by
  (refine a12 ?_; simp only [n12,List.replicate,yq,yr,yt,yu]; first | refine q1 ?_ | refine q2 ?_ | refine q6 ?_ | refine q7 ?_ | refine qh rfl ?_ | skip)
  (refine yg ?_)
  refine awp_loop_n [true,false,false,true,true,false,false,false,false,false,false,false,false,false,false,false,false,false,false,false] ll.length (fun i e H' => ∃ v1,e = [v,junk,junk,v1,.int .i64 i,junk,junk,junk,junk,junk,junk,junk,junk,junk,junk,junk,junk,junk,junk,junk] ∧ OwnL H H' (ll.take i) v1 ∧ Ext H H') ?_ ?_
  · exact ⟨_,by simp [forget],OwnL.nil _ _,Ext.refl _⟩
  rintro i e H1 hi ⟨v1,rfl,ho,hx⟩
  have hL1 := hL.ext hx
  (repeat(first|refine yw ?_|((first|apply yd|apply ye);simp (disch:=first|exact zz|fail) only[go_sem,hL1.len,hL1.idx,hL1.load];with_reducible rfl)))
  refine cond_p rfl (fun hlt => ?_) (fun hge => ?_)
  · have hi' : i < ll.length := by omega
    (repeat(first|refine yw ?_|((first|apply yd|apply ye);simp (disch:=first|exact zz|fail) only[go_sem,hL1.len,hL1.idx,hL1.load];with_reducible rfl)))
    refine aops_call ((copyInts_c (hL1.row hi') (by have := hr i hi'; omega)).mono fun v2 H2 h => ?_)
    obtain ⟨rfl,rfl⟩ := h
    obtain ⟨v3,H3,ha,ho3,hx3⟩ := ho.push hx (by simp; omega) (ll.getD i [])
    (repeat(first|refine yw ?_|((first|apply yd|apply ye);simp (disch:=first|exact zz|fail) only[go_sem,ha,fillA_slice,isAtom_slice];with_reducible rfl)))
    refine ⟨by omega,v3,by simp [forget],?_,hx3⟩
    rw [take_succ_getD (d := []) hi']; exact ho3
  · have hit : ll.take i = ll := List.take_of_length_le (by omega)
    rw [hit] at ho
    (refine yg ?_)
    exact fin_1 ⟨ho,hx⟩
end
end Go.Lq



namespace Go.Lq
structure Digit (y1 y0 u u1 : Int) : Prop where
  b0 : 0 ≤ y0 ∧ y0 < 4294967296
  b1 : 2147483648 ≤ y1 ∧ y1 < 4294967296
  bu : 0 ≤ u ∧ u < y1 * 4294967296 + y0
  bu1 : 0 ≤ u1 ∧ u1 < 4294967296
def quoD (y1 y0 u u1 : Int) : Int := (u * 4294967296 + u1) / (y1 * 4294967296 + y0)
section
variable {y1 y0 u u1 q r : Int}
theorem Digit.vpos (h : Digit y1 y0 u u1) : 0 < y1 * 4294967296 + y0 := by have := h.b0; have := h.b1; omega
theorem Digit.quo_nn (h : Digit y1 y0 u u1) : 0 ≤ quoD y1 y0 u u1 := Int.ediv_nonneg (by have := h.bu; have := h.bu1; omega) (by have := h.vpos; omega)
theorem Digit.quo_lt (h : Digit y1 y0 u u1) : quoD y1 y0 u u1 < 4294967296 := by
  refine Int.ediv_lt_of_lt_mul h.vpos ?_
  have h1 := h.bu
  have h2 := h.bu1
  generalize y1 * 4294967296 + y0 = v at *
  omega
theorem Digit.le_of (h : Digit y1 y0 u u1) (hm : q * (y1 * 4294967296 + y0) ≤ u * 4294967296 + u1) : q ≤ quoD y1 y0 u u1 := Int.le_ediv_of_mul_le h.vpos hm
theorem Digit.lt_of (h : Digit y1 y0 u u1) (hm : u * 4294967296 + u1 < q * (y1 * 4294967296 + y0)) : quoD y1 y0 u u1 < q := Int.ediv_lt_of_lt_mul h.vpos hm
theorem Digit.quo_mul (h : Digit y1 y0 u u1) : quoD y1 y0 u u1 * (y1 * 4294967296 + y0) ≤ u * 4294967296 + u1 := Int.ediv_mul_le _ (by have := h.vpos; omega)
theorem dist_qv (q y1 y0 : Int) : q * (y1 * 4294967296 + y0) = q * y1 * 4294967296 + q * y0 := by rw [Int.mul_add,Int.mul_assoc]
theorem Digit.first (h : Digit y1 y0 u u1) : quoD y1 y0 u u1 ≤ u / y1 := by
  have h1 := h.quo_mul
  have h2 := h.quo_nn
  have hy := h.b0
  have hy1 := h.b1
  have hu1 := h.bu1
  rw [dist_qv] at h1
  refine Int.le_ediv_of_mul_le (by omega) ?_
  have h3 := Int.mul_nonneg h2 hy.1
  generalize quoD y1 y0 u u1 * y1 = a at *
  generalize quoD y1 y0 u u1 * y0 = b at *
  omega
theorem Digit.step (h : Digit y1 y0 u u1) (hu : u = q * y1 + r) (hc : 4294967296 ≤ q ∨ 4294967296 * r + u1 < q * y0) : quoD y1 y0 u u1 ≤ q - 1 := by
  rcases hc with hc | hc
  · have := h.quo_lt; omega
  · have : quoD y1 y0 u u1 < q := h.lt_of (by rw [dist_qv]; omega)
    omega
theorem Digit.done (h : Digit y1 y0 u u1) (hu : u = q * y1 + r) (hq : quoD y1 y0 u u1 ≤ q) (hc : q * y0 ≤ 4294967296 * r + u1) : q = quoD y1 y0 u u1 := by
  have := h.le_of (q := q) (by rw [dist_qv]; omega)
  omega
theorem Digit.left (h : Digit y1 y0 u u1) (hq : q = quoD y1 y0 u u1) : u * 4294967296 + u1 - q * (y1 * 4294967296 + y0) = (u * 4294967296 + u1) % (y1 * 4294967296 + y0) := by
  subst hq
  have := Int.mul_ediv_add_emod (u * 4294967296 + u1) (y1 * 4294967296 + y0)
  rw [Int.mul_comm] at this
  unfold quoD
  omega
end
end Go.Lq

namespace Go.Lq
open Go
open Go.Proofs
def len8 (n : Nat) : Nat := if n = 0 then 0 else if n < 2 then 1 else if n < 4 then 2 else if n < 8 then 3 else if n < 16 then 4 else if n < 32 then 5 else if n < 64 then 6 else if n < 128 then 7 else 8
def len8tab : ByteArray := ⟨#[0,1,2,2,3,3,3,3,4,4,4,4,4,4,4,4,5,5,5,5,5,5,5,5,5,5,5,5,5,5,5,5,6,6,6,6,6,6,6,6,6,6,6,6,6,6,6,6,6,6,6,6,6,6,6,6,6,6,6,6,6,6,6,6,7,7,7,7,7,7,7,7,7,7,7,7,7,7,7,7,7,7,7,7,7,7,7,7,7,7,7,7,7,7,7,7,7,7,7,7,7,7,7,7,7,7,7,7,7,7,7,7,7,7,7,7,7,7,7,7,7,7,7,7,7,7,7,7,8,8,8,8,8,8,8,8,8,8,8,8,8,8,8,8,8,8,8,8,8,8,8,8,8,8,8,8,8,8,8,8,8,8,8,8,8,8,8,8,8,8,8,8,8,8,8,8,8,8,8,8,8,8,8,8,8,8,8,8,8,8,8,8,8,8,8,8,8,8,8,8,8,8,8,8,8,8,8,8,8,8,8,8,8,8,8,8,8,8,8,8,8,8,8,8,8,8,8,8,8,8,8,8,8,8,8,8,8,8,8,8,8,8,8,8,8,8,8,8,8,8,8,8,8,8,8,8]⟩
theorem tab8_at : ∀ k : _root_.Fin 256,(len8tab[k.val]?).map UInt8.toNat = some (len8 k.val) := by decide +kernel
set_option maxRecDepth 10000 in
theorem tab8 {H : AHeap} {n : Nat} (h : n < 256) : idxSR (.string ⟨#[0,1,2,2,3,3,3,3,4,4,4,4,4,4,4,4,5,5,5,5,5,5,5,5,5,5,5,5,5,5,5,5,6,6,6,6,6,6,6,6,6,6,6,6,6,6,6,6,6,6,6,6,6,6,6,6,6,6,6,6,6,6,6,6,7,7,7,7,7,7,7,7,7,7,7,7,7,7,7,7,7,7,7,7,7,7,7,7,7,7,7,7,7,7,7,7,7,7,7,7,7,7,7,7,7,7,7,7,7,7,7,7,7,7,7,7,7,7,7,7,7,7,7,7,7,7,7,7,8,8,8,8,8,8,8,8,8,8,8,8,8,8,8,8,8,8,8,8,8,8,8,8,8,8,8,8,8,8,8,8,8,8,8,8,8,8,8,8,8,8,8,8,8,8,8,8,8,8,8,8,8,8,8,8,8,8,8,8,8,8,8,8,8,8,8,8,8,8,8,8,8,8,8,8,8,8,8,8,8,8,8,8,8,8,8,8,8,8,8,8,8,8,8,8,8,8,8,8,8,8,8,8,8,8,8,8,8,8,8,8,8,8,8,8,8,8,8,8,8,8,8,8,8,8,8,8]⟩) (.int .u8 (n : Int)) H = some (.int .u8 (len8 n : Nat),H) := by
  show idxSR (.string len8tab) _ _ = _
  obtain ⟨b,hb,he⟩ := Option.map_eq_some_iff.1 (tab8_at ⟨n,h⟩)
  dsimp only at hb he
  simp only [idxSR,idxStr,Int.toNat_natCast,hb,Option.map_some,he]
  rw [if_pos (by omega)]
  rfl
theorem len8_spec {n : Nat} (h0 : 0 < n) (h : n < 256) : 1 ≤ len8 n ∧ len8 n ≤ 8 ∧ 2 ^ (len8 n - 1) ≤ n ∧ n < 2 ^ len8 n := by
  unfold len8
  repeat' split
  all_goals first | (exfalso; omega) | (refine ⟨by omega,by omega,?_,?_⟩ <;> (simp; try omega))
theorem pow_split {x n k : Nat} (h1 : 1 ≤ k) (hl : 2 ^ (k - 1) ≤ x / 2 ^ n) (hu : x / 2 ^ n < 2 ^ k) : 2 ^ (n + k - 1) ≤ x ∧ x < 2 ^ (n + k) := by
  constructor
  · have := (Nat.le_div_iff_mul_le (Nat.pow_pos (by omega))).1 hl
    rwa [← Nat.pow_add,show k - 1 + n = n + k - 1 by omega] at this
  · have := (Nat.div_lt_iff_lt_mul (Nat.pow_pos (by omega))).1 hu
    rwa [← Nat.pow_add,show k + n = n + k by omega] at this
section
variable {H : AHeap}
set_option maxRecDepth 10000 in
theorem len64_c {x : Int} (hx : 0 < x ∧ x < 18446744073709551616) : ACall Go.Proofs.Tryz.prog 84 [.int .u64 x] H fun v H' => H' = H ∧ ∃ n : Nat,v = .int .i64 n ∧ 1 ≤ n ∧ n ≤ 64 ∧ ((2 ^ (n - 1) : Nat) : Int) ≤ x ∧ x < ((2 ^ n : Nat) : Int) := by
  obtain ⟨xn,rfl⟩ : ∃ n : Nat,x = n := ⟨x.toNat,by omega⟩
  (refine a84 ?_; simp only [n84,List.replicate,yq,yr,yt,yu]; first | refine q1 ?_ | refine q2 ?_ | refine q6 ?_ | refine q7 ?_ | refine qh rfl ?_ | skip)
  (refine yg ?_)
  refine awp_mid [true,false,true,false,false,false,false,false,false,false,false,false,false,false,false,false,false,false,false,false,false,false,false,false,false] (fun e H' => H' = H ∧ ∃ n : Nat,n ≤ 32 ∧ 0 < xn / 2 ^ n ∧ xn / 2 ^ n < 4294967296 ∧ e = [.int .u64 ((xn / 2 ^ n : Nat) : Int),junk,.int .i64 n,junk,junk,junk,junk,junk,junk,junk,junk,junk,junk,junk,junk,junk,junk,junk,junk,junk,junk,junk,junk,junk,junk]) ?_ ?_
  · refine cond_p rfl (fun h => ?_) (fun h => ?_)
    · (refine yg ?_)
      exact ⟨rfl,rfl,32,by omega,by simp; omega,by simp; omega,by simp [forget]⟩
    · (refine yg ?_)
      exact ⟨rfl,rfl,0,by omega,by simp; omega,by simp; omega,by simp [forget]⟩
  rintro e H' ⟨rfl,n,hn,h1,h2,rfl⟩
  (refine yg ?_)
  refine awp_mid [true,false,true,false,false,false,false,false,false,false,false,false,false,false,false,false,false,false,false,false,false,false,false,false,false] (fun e H'' => H'' = H' ∧ ∃ n : Nat,n ≤ 48 ∧ 0 < xn / 2 ^ n ∧ xn / 2 ^ n < 65536 ∧ e = [.int .u64 ((xn / 2 ^ n : Nat) : Int),junk,.int .i64 n,junk,junk,junk,junk,junk,junk,junk,junk,junk,junk,junk,junk,junk,junk,junk,junk,junk,junk,junk,junk,junk,junk]) ?_ ?_
  · refine cond_p rfl (fun h => ?_) (fun h => ?_)
    · have e1 : xn / 2 ^ (n + 16) = xn / 2 ^ n / 65536 := by rw [Nat.pow_add,Nat.div_div_eq_div_mul]
      (refine yg ?_)
      exact ⟨rfl,rfl,n + 16,by omega,by rw [e1]; omega,by rw [e1]; omega,by rw [e1]; simp [forget]⟩
    · (refine yg ?_)
      exact ⟨rfl,rfl,n,by omega,h1,by omega,by simp [forget]⟩
  rintro e H'' ⟨rfl,n,hn,h1,h2,rfl⟩
  (refine yg ?_)
  refine awp_mid [true,false,true,false,false,false,false,false,false,false,false,false,false,false,false,false,false,false,false,false,false,false,false,false,false] (fun e H' => H' = H'' ∧ ∃ n : Nat,n ≤ 56 ∧ 0 < xn / 2 ^ n ∧ xn / 2 ^ n < 256 ∧ e = [.int .u64 ((xn / 2 ^ n : Nat) : Int),junk,.int .i64 n,junk,junk,junk,junk,junk,junk,junk,junk,junk,junk,junk,junk,junk,junk,junk,junk,junk,junk,junk,junk,junk,junk]) ?_ ?_
  · refine cond_p rfl (fun h => ?_) (fun h => ?_)
    · have e1 : xn / 2 ^ (n + 8) = xn / 2 ^ n / 256 := by rw [Nat.pow_add,Nat.div_div_eq_div_mul]
      (refine yg ?_)
      exact ⟨rfl,rfl,n + 8,by omega,by rw [e1]; omega,by rw [e1]; omega,by rw [e1]; simp [forget]⟩
    · (refine yg ?_)
      exact ⟨rfl,rfl,n,by omega,h1,by omega,by simp [forget]⟩
  rintro e H' ⟨rfl,n,hn,h1,h2,rfl⟩
  obtain ⟨l1,l2,l3,l4⟩ := len8_spec h1 h2
  (repeat(first|refine yw ?_|((first|apply yd|apply ye);simp (disch:=first|exact zz|fail) only[go_sem,conv_u8,tab8 h2];with_reducible rfl)))
  refine fin_1 ⟨rfl,n + len8 (xn / 2 ^ n),by simp,by omega,by omega,?_⟩
  obtain ⟨k1,k2⟩ := pow_split l1 l3 l4
  exact ⟨by exact_mod_cast k1,by exact_mod_cast k2⟩
end
end Go.Lq

namespace Go.Lq
open Go
def bytesSR (x : Value) (H : AHeap) : Option (Value × AHeap) := match x with | .string s => some (.slice (some ⟨H.length,0,none⟩) s.size (s.size + 1),H ++ [.cells false 1 (s.data.toList.map fun b => .int .u8 (b.toNat : Int))]) | _ => none
theorem r_bytesS {ρ : Operand → Value} {H : AHeap} {x : Operand} : ropRun (.bytesS x) ρ H = bytesSR (ρ x) H := rfl
theorem bytesS_b {l : List UInt8} {H : AHeap} : bytesSR (.string (bs l)) H = some (.slice (some ⟨H.length,0,none⟩) l.length (l.length + 1),H ++ [.cells false 1 (l.map fun b => .int .u8 (b.toNat : Int))]) := by
  unfold bytesSR
  simp only [bs_size,bs_data]
section
variable {a b : Int} {H : AHeap}
theorem c_lss8 : cmpR .lss (.int .u8 a) (.int .u8 b) H = some (.bool (decide (a < b)),H) := rfl
theorem c_leq8 : cmpR .leq (.int .u8 a) (.int .u8 b) H = some (.bool (decide (a ≤ b)),H) := rfl
theorem c_gtr8 : cmpR .gtr (.int .u8 a) (.int .u8 b) H = some (.bool (decide (b < a)),H) := rfl
theorem c_geq8 : cmpR .geq (.int .u8 a) (.int .u8 b) H = some (.bool (decide (b ≤ a)),H) := rfl
theorem c_eql8 : cmpR .eql (.int .u8 a) (.int .u8 b) H = some (.bool (decide (a = b)),H) := rfl
theorem c_neq8 : cmpR .neq (.int .u8 a) (.int .u8 b) H = some (.bool (decide (a ≠ b)),H) := by
  rw [show cmpR .neq (.int .u8 a) (.int .u8 b) H = some (.bool (!decide (a = b)),H) from rfl]
  by_cases h : a = b <;> simp [h]
end
attribute [go_sem] c_lss8 c_leq8 c_gtr8 c_geq8 c_eql8 c_neq8
attribute [go_sem] bs_lit bs_size idxS_b sliceS_b sliceS_from sliceS_to add_b eql_b neq_b r_byteS byteS_1 eqvI_n eqvI_i neqI_n neqI_i
attribute [go_sem high] r_eqvI
attribute [go_sem] isAtom_string constOk_string fillA_str fillA_ptr isAtom_pointer constOk_ptrNil r_bytesS bytesS_b
end Go.Lq

namespace Go.Lq
open Go
open Go.Proofs
structure Tr where
  nm : List UInt8
  lag : Int
  s : List Int
def tr0 : Tr := ⟨[],0,[]⟩
def Tr.has (t : Tr) (p : Int) : Bool := decide (0 ≤ p + t.lag ∧ p + t.lag ≤ (t.s.length : Int) - 1)
def Tr.at (t : Tr) (p : Int) : Int := t.s.getD (p + t.lag).toNat 0
def pres (l : List Tr) (p : Int) : List Int := (l.filter (·.has p)).map (·.at p)
theorem pres_snoc {l : List Tr} {i : Nat} (hi : i < l.length) (p : Int) : pres (l.take (i + 1)) p = if (l.getD i tr0).has p = true then pres (l.take i) p ++ [(l.getD i tr0).at p] else pres (l.take i) p := by
  have e : l.take (i + 1) = l.take i ++ [l.getD i tr0] := by
    rw [List.take_add_one,List.getElem?_eq_getElem hi,List.getD_eq_getElem?_getD,List.getElem?_eq_getElem hi]; rfl
  rw [e]
  generalize l.getD i tr0 = t
  unfold pres
  rw [List.filter_append,List.map_append]
  cases h : t.has p <;> simp [h]
theorem pres_len (l : List Tr) (p : Int) : (pres l p).length ≤ l.length := by
  unfold pres
  rw [List.length_map]
  exact List.length_filter_le ..
def trV (t : Tr) (u : Value) : Value := .agg ⟨[.string (bs t.nm),.int .i64 t.lag,u]⟩
def trC (t : Tr) (u : Value) : List Value := [.string (bs t.nm),.int .i64 t.lag,u]
def flatTr : List Tr → List Value → List Value
  | t :: l,u :: us => .string (bs t.nm) :: .int .i64 t.lag :: u :: flatTr l us
  | _,_ => []
theorem flatTr_len : ∀ {l : List Tr} {us : List Value},us.length = l.length → (flatTr l us).length = l.length * 3
  | [],us,h => by cases us <;> simp_all [flatTr]
  | t :: l,[],h => by simp at h
  | t :: l,u :: us,h => by
    simp only [flatTr,List.length_cons]
    rw [flatTr_len (by simpa using h)]
    omega
theorem flatTr_drop : ∀ (l : List Tr) (us : List Value) (i : Nat),us.length = l.length → (flatTr l us).drop (i * 3) = flatTr (l.drop i) (us.drop i)
  | l,us,0,_ => by simp
  | [],us,i + 1,h => by
    have : us = [] := List.length_eq_zero_iff.1 h
    subst this
    simp [flatTr]
  | t :: l,[],i + 1,h => by simp at h
  | t :: l,u :: us,i + 1,h => by
    rw [Nat.add_mul,Nat.one_mul]
    simpa [flatTr] using flatTr_drop l us i (by simpa using h)
theorem flatTr_take3 {l : List Tr} {us : List Value} {i : Nat} (hl : us.length = l.length) (h : i < l.length) : ((flatTr l us).drop (i * 3)).take 3 = trC (l.getD i tr0) (us.getD i undef) := by
  rw [flatTr_drop _ _ _ hl,drop_getD (d := tr0) h,drop_getD (d := undef) (show i < us.length by omega)]; rfl
theorem flatTr_at {l : List Tr} {us : List Value} {i k : Nat} (hl : us.length = l.length) (h : i < l.length) (hk : k < 3) :
    (flatTr l us).getD (i * 3 + k) undef = (trC (l.getD i tr0) (us.getD i undef)).getD k undef := by
  have h2 := flatTr_take3 hl h
  have e : (((flatTr l us).drop (i * 3)).take 3)[k]? = ((flatTr l us).drop (i * 3))[k]? := by rw [List.getElem?_take,if_pos hk]
  rw [h2,List.getElem?_drop] at e
  rw [List.getD_eq_getElem?_getD,← e]
  exact (List.getD_eq_getElem?_getD ..).symm
def Trs (H : AHeap) (l : List Tr) (us : List Value) (v : Value) : Prop := us.length = l.length ∧ Sl H 3 l.length (flatTr l us) v ∧ ∀ i,i < l.length → Ints H (l.getD i tr0).s (us.getD i undef)
section
variable {H H' : AHeap} {l : List Tr} {us : List Value} {v : Value}
theorem Trs.ext (h : Trs H l us v) (hx : Ext H H') : Trs H' l us v := ⟨h.1,h.2.1.ext hx,fun i hi => (h.2.2 i hi).ext hx⟩
theorem Trs.row (h : Trs H l us v) {i : Nat} (hi : i < l.length) : Ints H (l.getD i tr0).s (us.getD i undef) := h.2.2 i hi
theorem Trs.len (h : Trs H l us v) {H' : AHeap} : lenR v H' = some (.int .i64 l.length,H') := Sl.len h.2.1
theorem Trs.idx (h : Trs H l us v) {i : Int} {k : IntKind} {H' : AHeap} (h0 : 0 ≤ i) (h1 : i < l.length) : idxR 3 v (.int k i) H' = some (addrOf v (i.toNat * 3),H') := Sl.idx h.2.1 h0 h1
theorem Trs.load (h : Trs H l us v) (hx : Ext H H') {i : Nat} (hi : i < l.length) :
    loadNR 3 (addrOf v (i * 3)) H' = some (.agg ⟨[.string (bs (l.getD i tr0).nm),.int .i64 (l.getD i tr0).lag,us.getD i undef]⟩,H') ∧
    faddrR 0 (addrOf v (i * 3)) H' = some (addrOf v (i * 3),H') ∧ faddrR 1 (addrOf v (i * 3)) H' = some (addrOf v (i * 3 + 1),H') ∧ faddrR 2 (addrOf v (i * 3)) H' = some (addrOf v (i * 3 + 2),H') ∧
    loadR (addrOf v (i * 3)) H' = some (.string (bs (l.getD i tr0).nm),H') ∧ loadR (addrOf v (i * 3 + 1)) H' = some (.int .i64 (l.getD i tr0).lag,H') ∧ loadR (addrOf v (i * 3 + 2)) H' = some (us.getD i undef,H') := by
  refine ⟨?_,Sl.faddr h.2.1 (by omega),Sl.faddr h.2.1 (by omega),Sl.faddr h.2.1 (by omega),?_,?_,?_⟩
  · rw [Sl.loadN h.2.1 hx (by omega) (by omega),flatTr_take3 h.1 hi]; rfl
  · rw [Sl.load h.2.1 hx (by omega)]; have := flatTr_at (k := 0) h.1 hi (by omega); rw [Nat.add_zero] at this; rw [this]; rfl
  · rw [Sl.load h.2.1 hx (by omega),flatTr_at h.1 hi (by omega)]; rfl
  · rw [Sl.load h.2.1 hx (by omega),flatTr_at h.1 hi (by omega)]; rfl
theorem ints_atom {l : List Int} {v : Value} (h : Ints H l v) : isAtom v = true := by
  rcases h.2 with ⟨rfl,_⟩ | ⟨id,off,c,rfl,_⟩ <;> rfl
end
section
variable {H : AHeap}
theorem box_tr {t : Tr} {u : Value} (h : isAtom u = true) {H : AHeap} : boxR (.agg ⟨[.string (bs t.nm),.int .i64 t.lag,u]⟩) H = some (.pointer (some ⟨H.length,0,none⟩),H ++ [.cells true 0 [.string (bs t.nm),.int .i64 t.lag,u]]) :=
  box_agg (by simp [h,isAtom_int,isAtom_string])
theorem store_tr {t : Tr} {u : Value} (h : isAtom u = true) {H : AHeap} {e : Nat} {a b c : Value} : storeR 3 (.pointer (some ⟨H.length,0,none⟩)) (.agg ⟨[.string (bs t.nm),.int .i64 t.lag,u]⟩) (H ++ [.cells true e [a,b,c]]) = some (undef,H ++ [.cells true e [.string (bs t.nm),.int .i64 t.lag,u]]) :=
  store_new (us := [.string (bs t.nm),.int .i64 t.lag,u]) (by simp [h,isAtom_int,isAtom_string]) rfl
theorem closed_ib (a : Int) (b : Bool) : Closed (.tuple #[.int .i64 a,.bool b]) := .tuple _ (closed_list (l := [.int .i64 a,.bool b]) fun v hv => by
  simp only [List.mem_cons,List.not_mem_nil,or_false] at hv
  rcases hv with rfl | rfl
  · exact .int _ _
  · exact .bool _)
theorem jsize_c (n : Int) (hn : -9223372036854775807 ≤ n ∧ n ≤ 9223372036854775807) : ACall Go.Proofs.Tryz.prog 48 [.int .i64 n] H fun v H' => v = .int .i64 (max n (-n)) ∧ H' = H := by
  (refine a48 ?_; simp only [n48,List.replicate,List.length_cons,List.length_nil,List.cons_append,List.nil_append]; first | refine Go.Lq.q1 ?_ | refine Go.Lq.q2 ?_ | refine Go.Lq.q6 ?_ | refine Go.Lq.q7 ?_ | refine Go.Lq.qh rfl ?_ | skip)
  (refine yg ?_)
  refine fin_1 ⟨?_,rfl⟩
  simp
theorem sample_c {t : Tr} {u : Value} {p : Int} (hu : Ints H t.s u) (hp : -1000000 ≤ p ∧ p ≤ 1000000) (hl : -100 ≤ t.lag ∧ t.lag ≤ 100) (hs : t.s.length ≤ 1000000) :
    ACall Go.Proofs.Tryz.prog 72 [trV t u,.int .i64 p] H fun v H' => v = .tuple #[.int .i64 (if t.has p = true then t.at p else 0),.bool (t.has p)] ∧ H' = H := by
  refine ACall.drop (closed_ib _ _) ?_
  unfold trV
  (refine a72 ?_; simp only [n72,List.replicate,List.length_cons,List.length_nil,List.cons_append,List.nil_append]; first | refine Go.Lq.q1 ?_ | refine Go.Lq.q2 ?_ | refine Go.Lq.q6 ?_ | refine Go.Lq.q7 ?_ | refine Go.Lq.qh rfl ?_ | skip)
  have hu1 := hu.ext ((Ext.refl H).app [.cells true 0 [.string (bs t.nm),.int .i64 t.lag,u]])
  (repeat(first|refine yw ?_|((first|apply yd|apply ye);simp (disch:=first|exact zz|fail) only[go_sem,hu1.len,hu1.idx,hu1.load,box_tr (ints_atom hu)];with_reducible rfl)))
  refine aops_call_to (within_c _ _ _) ?_
  by_cases h : 0 ≤ p + t.lag ∧ p + t.lag ≤ (t.s.length : Int) - 1
  · have e : t.has p = true := by simp [Tr.has,h]
    rw [dec_t h,e,if_pos rfl]
    (repeat(first|refine yw ?_|((first|apply yd|apply ye);simp (disch:=first|exact zz|fail) only[go_sem,hu1.len,hu1.idx,hu1.load];with_reducible rfl)))
    refine cond_f rfl ?_
    (repeat(first|refine yw ?_|((first|apply yd|apply ye);simp (disch:=first|exact zz|fail) only[go_sem,hu1.len,hu1.idx,hu1.load];with_reducible rfl)))
    exact fin_2 ⟨rfl,(Ext.refl H).app _⟩
  · have e : t.has p = false := by simp [Tr.has]; omega
    rw [dec_f h,e,if_neg (by decide)]
    (repeat(first|refine yw ?_|((first|apply yd|apply ye);simp (disch:=first|exact zz|fail) only[go_sem,hu1.len,hu1.idx,hu1.load];with_reducible rfl)))
    refine cond_t rfl ?_
    (refine yg ?_)
    exact fin_2 ⟨rfl,(Ext.refl H).app _⟩
end
end Go.Lq

namespace Go.Lq
open Go
open Go.Proofs
section
variable {H : AHeap}
theorem isNaNi_c (a : Int) : ACall Go.Proofs.Tryz.prog 66 [.int .i64 a] H fun v H' => v = .bool false ∧ H' = H := by
  (refine a66 ?_; simp only [n66,List.replicate,List.length_cons,List.length_nil,List.cons_append,List.nil_append]; first | refine Go.Lq.q1 ?_ | refine Go.Lq.q2 ?_ | refine Go.Lq.q6 ?_ | refine Go.Lq.q7 ?_ | refine Go.Lq.qh rfl ?_ | skip)
  (refine yg ?_)
  refine fin_1 ⟨?_,rfl⟩
  simp
theorem less_c (a b : Int) : ACall Go.Proofs.Tryz.prog 113 [.int .i64 a,.int .i64 b] H fun v H' => v = .bool (decide (a < b)) ∧ H' = H := by
  (refine a113 ?_; simp only [n113,List.replicate,List.length_cons,List.length_nil,List.cons_append,List.nil_append]; first | refine Go.Lq.q1 ?_ | refine Go.Lq.q2 ?_ | refine Go.Lq.q6 ?_ | refine Go.Lq.q7 ?_ | refine Go.Lq.qh rfl ?_ | skip)
  (refine yg ?_)
  (refine aops_call_to (isNaNi_c a) ?_)
  (refine yg ?_)
  exact fin_1 ⟨rfl,rfl⟩
set_option maxHeartbeats 1000000 in
theorem insSort_c {H0 : AHeap} {l : List Int} {v : Value} (ho : OwnI H0 H l v) (hx : Ext H0 H) (hb : l.length ≤ 1000) :
    ACall Go.Proofs.Tryz.prog 107 [v,.int .i64 0,.int .i64 l.length] H fun _ H' => OwnI H0 H' (sortI l) v ∧ Ext H0 H' := by
  (refine a107 ?_; simp only [n107,List.replicate,List.length_cons,List.length_nil,List.cons_append,List.nil_append]; first | refine Go.Lq.q1 ?_ | refine Go.Lq.q2 ?_ | refine Go.Lq.q6 ?_ | refine Go.Lq.q7 ?_ | refine Go.Lq.qh rfl ?_ | skip)
  (refine yg ?_)
  refine awp_loop_n [true,true,true,false,false,false,true,false,false,false,false,false,false,false,false,false,false,false,false,false,false,false,false,false,false,false,false,false,false,false,false,false,false,false,false,false,false,false,false,false,false,false,false,false,false,false,false,false,false] l.length (fun i e H' => ∃ m,e = [v,.int .i64 0,.int .i64 l.length,junk,junk,junk,.int .i64 ((i + 1 : Nat) : Int),junk,junk,junk,junk,junk,junk,junk,junk,junk,junk,junk,junk,junk,junk,junk,junk,junk,junk,junk,junk,junk,junk,junk,junk,junk,junk,junk,junk,junk,junk,junk,junk,junk,junk,junk,junk,junk,junk,junk,junk,junk,junk] ∧ OwnI H0 H' m v ∧ Ext H0 H' ∧ m.Perm l ∧ Fst m (i + 1)) ?_ ?_
  · exact ⟨l,by simp [forget],ho,hx,List.Perm.refl _,fun a b h1 h2 => by omega⟩
  rintro i e H1 hi ⟨m,rfl,o1,x1,p1,f1⟩
  have ml := p1.length_eq
  (refine yg ?_)
  refine cond_p rfl (fun hlt => ?_) (fun hge => ?_)
  rotate_left 1
  · (refine yg ?_)
    refine ⟨.inl rfl,_,rfl,?_⟩
    rw [← Fst.eq (l := m) (fun a b h1 h2 => f1 a b h1 (by omega)) p1]
    exact ⟨o1,x1⟩
  (refine yg ?_)
  refine awp_loop_n [true,true,true,false,false,false,true,true,false,false,false,false,false,false,false,false,false,false,false,false,false,false,false,false,false,false,false,false,false,false,false,false,false,false,false,false,false,false,false,false,false,false,false,false,false,false,false,false,false] (i + 1) (fun k e H' => ∃ m,e = [v,.int .i64 0,.int .i64 l.length,junk,junk,junk,.int .i64 ((i + 1 : Nat) : Int),.int .i64 ((i + 1 - k : Nat) : Int),junk,junk,junk,junk,junk,junk,junk,junk,junk,junk,junk,junk,junk,junk,junk,junk,junk,junk,junk,junk,junk,junk,junk,junk,junk,junk,junk,junk,junk,junk,junk,junk,junk,junk,junk,junk,junk,junk,junk,junk,junk] ∧ OwnI H0 H' m v ∧ Ext H0 H' ∧ m.Perm l ∧ InsAt m (i + 1) (i + 1 - k)) ?_ ?_
  · exact ⟨m,by simp [forget],o1,x1,p1,InsAt.start f1⟩
  clear o1 x1 p1 f1 ml
  clear m
  rintro k e H2 hk ⟨m,rfl,o2,x2,p2,a2⟩
  have ml := p2.length_eq
  have hm := o2.ints
  obtain ⟨j,hj⟩ : ∃ j,j = i + 1 - k := ⟨_,rfl⟩
  rw [← hj] at a2 ⊢
  cases j with
  | zero =>
    (repeat(first|refine yw ?_|((first|apply yd|apply ye);simp (disch:=first|exact zz|fail) only[go_sem,dec_f (show ¬ (0 : Int) < ((0 : Nat) : Int) by decide)];with_reducible rfl)))
    refine cond_f rfl ?_
    (refine yg ?_)
    exact ⟨by omega,m,by simp [forget],o2,x2,p2,a2.done (by omega) (.inl rfl)⟩
  | succ q =>
    have e1 : ((q + 1 : Nat) : Int) - 1 = (q : Int) := by omega
    (repeat(first|refine yw ?_|((first|apply yd|apply ye);simp (disch:=first|exact zz|fail) only[go_sem,hm.len,hm.idx,hm.load,dec_t (show (0 : Int) < ((q + 1 : Nat) : Int) by omega),e1];with_reducible rfl)))
    (refine adraw_call (N := []) (firstD (less_c (m.getD (q + 1) 0) (m.getD q 0))) ?_; rw [List.append_nil])
    (refine yg ?_)
    refine cond_p rfl (fun hlt2 => ?_) (fun hge2 => ?_)
    · have s1 := o2.store (k := q + 1) (by omega) (m.getD q 0)
      have o3 := o2.stored (m.set (q + 1) (m.getD q 0)) (by simp)
      have s2 := o3.store (k := q) (by simp; omega) (m.getD (q + 1) 0)
      have o4 := o3.stored ((m.set (q + 1) (m.getD q 0)).set q (m.getD (q + 1) 0)) (by simp)
      have x3 := o3.ext_set (o2.ext_set x2 _) ((m.set (q + 1) (m.getD q 0)).set q (m.getD (q + 1) 0))
      rw [swapA_set q m (by omega)] at s2 o4 x3
      (repeat(first|refine yw ?_|((first|apply yd|apply ye);simp (disch:=first|exact zz|fail) only[go_sem,hm.len,hm.idx,hm.load,e1,s1,s2];with_reducible rfl)))
      exact ⟨by omega,swapA q m,by simp [forget]; omega,o4,x3,(swapA_perm q m).trans p2,by rw [show i + 1 - (k + 1) = q by omega]; exact a2.step (by omega) (by omega) hlt2⟩
    · (refine yg ?_)
      exact ⟨by omega,m,by simp [forget],o2,x2,p2,a2.done (by omega) (.inr (by simpa using hge2))⟩
theorem len_c {x : Int} (hx : 0 < x ∧ x < 18446744073709551616) : ACall Go.Proofs.Tryz.prog 57 [.int .u64 x] H fun v H' => H' = H ∧ ∃ n : Int,v = .int .i64 n := by
  (refine a57 ?_; simp only [n57,List.replicate,List.length_cons,List.length_nil,List.cons_append,List.nil_append]; first | refine Go.Lq.q1 ?_ | refine Go.Lq.q2 ?_ | refine Go.Lq.q6 ?_ | refine Go.Lq.q7 ?_ | refine Go.Lq.qh rfl ?_ | skip)
  (refine yg ?_)
  refine cond_f rfl ?_
  (refine yg ?_)
  refine aops_call ((len64_c hx).mono fun u H' ⟨h1,n,h2,_⟩ => ?_)
  subst h1
  subst h2
  (refine yg ?_)
  exact fin_1 ⟨rfl,_,rfl⟩
theorem pdq_c {H0 : AHeap} {l : List Int} {v : Value} {n : Int} (ho : OwnI H0 H l v) (hx : Ext H0 H) (hb : l.length ≤ 12) :
    ACall Go.Proofs.Tryz.prog 104 [v,.int .i64 0,.int .i64 l.length,.int .i64 n] H fun _ H' => OwnI H0 H' (sortI l) v ∧ Ext H0 H' := by
  (refine a104 ?_; simp only [n104,List.replicate,List.length_cons,List.length_nil,List.cons_append,List.nil_append]; first | refine Go.Lq.q1 ?_ | refine Go.Lq.q2 ?_ | refine Go.Lq.q6 ?_ | refine Go.Lq.q7 ?_ | refine Go.Lq.qh rfl ?_ | skip)
  (refine yg ?_)
  refine awp_loop_n [true,true,true,false,false,false,false,false,false,false,false,false,false,false,false,false,false,false,false,false,false,false,false,false,false,false,false,false,false,false,false,false,false,false,false,false,false,false,false,false,false,false,false,false,false,false,false,false,false,false,false,false,false,false,false,false,false,false,false,false,false,false,false,false,false,false,false,false,false,false,false,false,false,false,false,false,false,false,false,false,false,false,false,false,false,false,false,false,false,false,false,false,false,false,false,false,false,false,false,false,false,false,false,false,false,false,false,false,false,false,false,false,false,false,false,false,false,false,false,false,false,false,false,false,false,false,false,false,false,false,false,false,false,false] 0 (fun i e H' => H' = H ∧ e = [v,.int .i64 0,.int .i64 l.length,junk,junk,junk,junk,junk,junk,junk,junk,junk,junk,junk,junk,junk,junk,junk,junk,junk,junk,junk,junk,junk,junk,junk,junk,junk,junk,junk,junk,junk,junk,junk,junk,junk,junk,junk,junk,junk,junk,junk,junk,junk,junk,junk,junk,junk,junk,junk,junk,junk,junk,junk,junk,junk,junk,junk,junk,junk,junk,junk,junk,junk,junk,junk,junk,junk,junk,junk,junk,junk,junk,junk,junk,junk,junk,junk,junk,junk,junk,junk,junk,junk,junk,junk,junk,junk,junk,junk,junk,junk,junk,junk,junk,junk,junk,junk,junk,junk,junk,junk,junk,junk,junk,junk,junk,junk,junk,junk,junk,junk,junk,junk,junk,junk,junk,junk,junk,junk,junk,junk,junk,junk,junk,junk,junk,junk,junk,junk,junk,junk,junk,junk]) ?_ ?_
  · exact ⟨rfl,by simp [forget]⟩
  rintro i e H1 _ ⟨rfl,rfl⟩
  (repeat(first|refine yw ?_|((first|apply yd|apply ye);simp (disch:=first|exact zz|fail) only[go_sem,dec_t (show (l.length : Int) - 0 ≤ 12 by omega)];with_reducible rfl)))
  refine cond_t rfl ?_
  (refine yg ?_)
  refine aops_call ((insSort_c ho hx (by omega)).mono fun u H2 h => ?_)
  (refine yg ?_)
  exact ⟨.inr rfl,_,rfl,h⟩
theorem sort_c {H0 : AHeap} {l : List Int} {v : Value} (ho : OwnI H0 H l v) (hx : Ext H0 H) (h0 : 0 < l.length) (hb : l.length ≤ 12) :
    ACall Go.Proofs.Tryz.prog 95 [v] H fun _ H' => OwnI H0 H' (sortI l) v ∧ Ext H0 H' := by
  have hl := ho.ints
  (refine a95 ?_; simp only [n95,List.replicate,List.length_cons,List.length_nil,List.cons_append,List.nil_append]; first | refine Go.Lq.q1 ?_ | refine Go.Lq.q2 ?_ | refine Go.Lq.q6 ?_ | refine Go.Lq.q7 ?_ | refine Go.Lq.qh rfl ?_ | skip)
  (repeat(first|refine yw ?_|((first|apply yd|apply ye);simp (disch:=first|exact zz|fail) only[go_sem,hl.len,hl.idx,hl.load];with_reducible rfl)))
  refine aops_call ((len_c (x := l.length) (by omega)).mono fun u H2 ⟨h1,n,h2⟩ => ?_)
  subst h1
  subst h2
  (refine yg ?_)
  refine aops_call ((pdq_c ho hx hb).mono fun u H2 h => ?_)
  (refine yg ?_)
  exact ⟨.inl rfl,_,rfl,h⟩
end
end Go.Lq

namespace Go.Lq
open Go
open Go.Proofs
def NameAt (i : Nat) (b : Int) : Prop := (97 ≤ b ∧ b ≤ 122) ∨ (65 ≤ b ∧ b ≤ 90 ∧ b < 97) ∨ (i ≠ 0 ∧ b = 45) ∨ (i ≠ 0 ∧ 48 ≤ b ∧ b ≤ 57)
def NameOk (l : List UInt8) : Prop := l ≠ [] ∧ l.length ≤ 12 ∧ ∀ i : Nat,i < l.length → NameAt i (at8 l i)
theorem not_nameAt {i : Nat} {b : Int} (h : ¬ NameAt i b) : (122 < b ∨ (90 < b ∧ b < 97) ∨ b < 65) ∧ (i = 0 ∨ (i ≠ 0 ∧ b ≠ 45 ∧ (b < 48 ∨ 57 < b))) := by
  unfold NameAt at h
  omega
structure TrOk (t : Tr) : Prop where
  nm : NameOk t.nm
  lag : -100 ≤ t.lag ∧ t.lag ≤ 100
  len : t.s.length ≤ 200
  val : ∀ n ∈ t.s,-32767 ≤ n ∧ n ≤ 32767
structure TrsOk (l : List Tr) : Prop where
  len : 0 < l.length ∧ l.length ≤ 6
  ok : ∀ i,i < l.length → TrOk (l.getD i tr0)
  dis : ∀ i k,k < i → i < l.length → (l.getD k tr0).nm ≠ (l.getD i tr0).nm
theorem flatTr_take : ∀ (l : List Tr) (us : List Value) (i : Nat),us.length = l.length → (flatTr l us).take (i * 3) = flatTr (l.take i) (us.take i)
  | l,us,0,_ => by simp [flatTr]
  | [],us,i + 1,h => by
    have : us = [] := List.length_eq_zero_iff.1 h
    subst this
    simp [flatTr]
  | t :: l,[],i + 1,h => by simp at h
  | t :: l,u :: us,i + 1,h => by
    rw [Nat.add_mul,Nat.one_mul]
    simpa [flatTr] using flatTr_take l us i (by simpa using h)
theorem Trs.upto {H : AHeap} {l : List Tr} {us : List Value} {v : Value} (h : Trs H l us v) {i : Nat} (hi : i < l.length) : Trs H (l.take i) (us.take i) (toV v i) := by
  refine ⟨by have := h.1; simp; omega,?_,fun k hk => ?_⟩
  · have := h.2.1.upto (m := i) (by omega)
    rw [flatTr_take _ _ _ h.1] at this
    rwa [show (l.take i).length = i by simp; omega]
  · have hk' : k < i := by simp at hk; omega
    have := h.2.2 k (by omega)
    rwa [List.getD_eq_getElem?_getD,List.getElem?_take_of_lt hk',List.getD_eq_getElem?_getD,List.getElem?_take_of_lt hk',← List.getD_eq_getElem?_getD,← List.getD_eq_getElem?_getD]
section
variable {H : AHeap}
set_option maxHeartbeats 2000000 in
theorem isName_c {l : List UInt8} (h : NameOk l) : ACall Go.Proofs.Tryz.prog 69 [.string (bs l)] H fun v H' => v = .bool true ∧ H' = H := by
  refine ACall.drop (.bool _) ?_
  obtain ⟨h1,h2,h3⟩ := h
  (refine a69 ?_; simp only [n69,List.replicate,List.length_cons,List.length_nil,List.cons_append,List.nil_append]; first | refine Go.Lq.q1 ?_ | refine Go.Lq.q2 ?_ | refine Go.Lq.q6 ?_ | refine Go.Lq.q7 ?_ | refine Go.Lq.qh rfl ?_ | skip)
  (refine yg ?_)
  obtain ⟨G,hG⟩ : ∃ G,G = H ++ [AObj.cells false 1 (l.map fun b => Value.int .u8 (b.toNat : Int))] := ⟨_,rfl⟩
  have xG : Ext H G := by rw [hG]; exact (Ext.refl H).app _
  have ld : ∀ i : Nat,i < l.length → loadR (.pointer (some ⟨H.length,i,none⟩)) G = some (.int .u8 (at8 l i),G) := fun i hi => by
    rw [hG,load_new,List.getElem?_map,List.getElem?_eq_getElem hi,at8_nat,List.getD_eq_getElem?_getD,List.getElem?_eq_getElem hi]
    rfl
  have ix : ∀ i : Nat,i < l.length → idxR 1 (.slice (some ⟨H.length,0,none⟩) l.length (l.length + 1)) (.int .i64 (i : Int)) G = some (.pointer (some ⟨H.length,i,none⟩),G) := fun i hi => by
    simp only [idxR]
    rw [if_pos (by omega)]
    simp
  rw [← hG]
  clear hG
  refine awp_loop_n [true,false,false,false,false,false,false,true,true,true,false,false,false,false,false,false,false,false,false,false,false,false,false,false,false,false,false,false,false,false,false,false,false,false,false,false,false,false,false,false,false,false,false,false,false,false,false,false,false,false,false,false,false,false] l.length (fun i e H' => H' = G ∧ e = [.string (bs l),junk,junk,junk,junk,junk,junk,.slice (some ⟨H.length,0,none⟩) l.length (l.length + 1),.int .i64 l.length,.int .i64 i,junk,junk,junk,junk,junk,junk,junk,junk,junk,junk,junk,junk,junk,junk,junk,junk,junk,junk,junk,junk,junk,junk,junk,junk,junk,junk,junk,junk,junk,junk,junk,junk,junk,junk,junk,junk,junk,junk,junk,junk,junk,junk,junk,junk]) ?_ ?_
  · exact ⟨rfl,by simp [forget]⟩
  rintro i e H' hi ⟨rfl,rfl⟩
  (refine yg ?_)
  refine cond_p rfl (fun hlt => ?_) (fun hge => ?_)
  · have hi' : i < l.length := by omega
    have hn := h3 i hi'
    have ldi := ld i hi'
    have ixi := ix i hi'
    clear ld ix h3
    generalize at8 l i = b at hn ldi
    rcases hn with hn | hn | hn | hn <;> ((repeat(first|refine yw ?_|((first|apply yd|apply ye);simp (disch:=first|exact zz|fail) only[go_sem,ixi,ldi,dec_t,dec_f];with_reducible rfl))); refine cond_f rfl ?_; (refine yg ?_); exact ⟨by omega,rfl,by simp [forget]⟩)
  · have hne : (l ≠ []) = True := by simp [h1]
    (repeat(first|refine yw ?_|((first|apply yd|apply ye);simp (disch:=first|exact zz|fail) only[go_sem,dec_t (show l ≠ [] from h1),dec_t (show (l.length : Int) ≤ 12 by omega)];with_reducible rfl)))
    exact fin_1 ⟨rfl,xG⟩
set_option maxHeartbeats 2000000 in
theorem bisName_c {l : List UInt8} : ACall Go.Proofs.Tryz.prog 67 [.string (bs l)] H fun v H' => (∃ b,v = .bool b ∧ (b = true → NameOk l)) ∧ H' = H := by
  (refine a67 ?_; simp only [n67,List.replicate,List.length_cons,List.length_nil,List.cons_append,List.nil_append]; first | refine Go.Lq.q1 ?_ | refine Go.Lq.q2 ?_ | refine Go.Lq.q6 ?_ | refine Go.Lq.q7 ?_ | refine Go.Lq.qh rfl ?_ | skip)
  by_cases h1 : (l.length : Int) < 1
  · (repeat(first|refine yw ?_|((first|apply yd|apply ye);simp (disch:=first|exact zz|fail) only[go_sem,dec_t h1];with_reducible rfl)))
    refine cond_t rfl ?_
    (refine yg ?_)
    exact fin_1 ⟨⟨false,rfl,fun h => by cases h⟩,rfl⟩
  by_cases h2 : (12 : Int) < l.length
  · (repeat(first|refine yw ?_|((first|apply yd|apply ye);simp (disch:=first|exact zz|fail) only[go_sem,dec_f h1,dec_t h2];with_reducible rfl)))
    refine cond_t rfl ?_
    (refine yg ?_)
    exact fin_1 ⟨⟨false,rfl,fun h => by cases h⟩,rfl⟩
  (repeat(first|refine yw ?_|((first|apply yd|apply ye);simp (disch:=first|exact zz|fail) only[go_sem,dec_f h1,dec_f h2];with_reducible rfl)))
  refine cond_f rfl ?_
  (refine yg ?_)
  refine awp_loop_n [true,false,false,true,false,false,false,false,false,false,false,false,false,false,false,false,false,false,false,false,false,false,false,false,false,false,false,false,false,false,false,false,false,false,false,false,false,false,false,false,false,false,false,false,false,false,false,false,false,false,false,false,false,false,false] l.length (fun i e H' => H' = H ∧ e = [.string (bs l),junk,junk,.int .i64 i,junk,junk,junk,junk,junk,junk,junk,junk,junk,junk,junk,junk,junk,junk,junk,junk,junk,junk,junk,junk,junk,junk,junk,junk,junk,junk,junk,junk,junk,junk,junk,junk,junk,junk,junk,junk,junk,junk,junk,junk,junk,junk,junk,junk,junk,junk,junk,junk,junk,junk,junk] ∧ ∀ j : Nat,j < i → NameAt j (at8 l j)) ?_ ?_
  · exact ⟨rfl,by simp [forget],fun j hj => by omega⟩
  rintro i e H' hi ⟨rfl,rfl,hb⟩
  (refine yg ?_)
  refine cond_p rfl (fun hlt => ?_) (fun hge => ?_)
  · have hi' : i < l.length := by omega
    by_cases hn : NameAt i (at8 l i)
    · have hb' : ∀ j : Nat,j < i + 1 → NameAt j (at8 l j) := fun j hj => by
        by_cases e : j = i
        · subst e; exact hn
        · exact hb j (by omega)
      clear hb
      rcases hn with hn | hn | hn | hn <;> ((repeat(first|refine yw ?_|((first|apply yd|apply ye);simp (disch:=first|exact zz|fail) only[go_sem,dec_t,dec_f];with_reducible rfl))); refine cond_f rfl ?_; (refine yg ?_); exact ⟨by omega,rfl,by simp [forget],hb'⟩)
    · obtain ⟨hn1,hn2⟩ := not_nameAt hn
      clear hn hb
      rcases hn1 with hn1 | hn1 | hn1 <;> rcases hn2 with hn2 | ⟨hn0,hn2,hn3 | hn3⟩ <;> first | (exfalso; omega) | ((repeat(first|refine yw ?_|((first|apply yd|apply ye);simp (disch:=first|exact zz|fail) only[go_sem,dec_t,dec_f];with_reducible rfl))); refine cond_t rfl ?_; (refine yg ?_); exact fin_1 ⟨⟨false,rfl,fun h => by cases h⟩,rfl⟩)
  · obtain rfl : i = l.length := by omega
    (refine yg ?_)
    exact fin_1 ⟨⟨true,rfl,fun _ => ⟨by rintro rfl; simp at h1,by omega,hb⟩⟩,rfl⟩
theorem joinIdx1_c {t : Tr} {u : Value} {id : Nat} {w : List UInt8} (hu : isAtom u = true) (h0 : H[id]? = some (.cells true 0 [.string (bs w)])) (hne : t.nm ≠ w) :
    AInvoke Go.Proofs.Tryz.prog (.func (.func 94) #[] #[.pointer (some ⟨id,0,none⟩)]) [trV t u] H fun v H' => v = .bool false ∧ H' = H := by
  show ACall _ _ _ _ _
  simp only [List.append_nil,List.nil_append,List.cons_append]
  refine ACall.drop (.bool _) ?_
  unfold trV
  (refine a94 ?_; simp only [n94,List.replicate,List.length_cons,List.length_nil,List.cons_append,List.nil_append]; first | refine Go.Lq.q1 ?_ | refine Go.Lq.q2 ?_ | refine Go.Lq.q6 ?_ | refine Go.Lq.q7 ?_ | refine Go.Lq.qh rfl ?_ | skip)
  have h1 : (H ++ [AObj.cells true 0 [.string (bs t.nm),.int .i64 t.lag,u]])[id]? = some (.cells true 0 [.string (bs w)]) := at_app h0
  (repeat(first|refine yw ?_|((first|apply yd|apply ye);simp (disch:=first|exact zz|fail) only[go_sem,box_tr hu,load_at h1,dec_f hne];with_reducible rfl)))
  exact fin_1 ⟨rfl,(Ext.refl H).app _⟩
theorem idxFuncT_c {l : List Tr} {us : List Value} {v : Value} {id : Nat} {w : List UInt8} (hT : Trs H l us v) (h0 : H[id]? = some (.cells true 0 [.string (bs w)])) (hb : l.length ≤ 1000) (hne : ∀ i,i < l.length → (l.getD i tr0).nm ≠ w) :
    ACall Go.Proofs.Tryz.prog 93 [v,.func (.func 94) #[] #[.pointer (some ⟨id,0,none⟩)]] H fun v H' => v = .int .i64 (-1) ∧ H' = H := by
  (refine a93 ?_; simp only [n93,List.replicate,List.length_cons,List.length_nil,List.cons_append,List.nil_append]; first | refine Go.Lq.q1 ?_ | refine Go.Lq.q2 ?_ | refine Go.Lq.q6 ?_ | refine Go.Lq.q7 ?_ | refine Go.Lq.qh rfl ?_ | skip)
  (repeat(first|refine yw ?_|((first|apply yd|apply ye);simp (disch:=first|exact zz|fail) only[go_sem,hT.len,hT.idx,hT.load];with_reducible rfl)))
  refine awp_loop_n [true,true,false,false,false,false,false,true,true,false,false,false,false,false,false,false,false,false,false] l.length (fun i e H' => H' = H ∧ e = [v,.func (.func 94) #[] #[.pointer (some ⟨id,0,none⟩)],junk,junk,junk,junk,junk,.int .i64 l.length,.int .i64 i,junk,junk,junk,junk,junk,junk,junk,junk,junk,junk]) ?_ ?_
  · exact ⟨rfl,by simp [forget]⟩
  rintro i e H' hi ⟨rfl,rfl⟩
  (refine yg ?_)
  refine cond_p rfl (fun hlt => ?_) (fun hge => ?_)
  · have hi' : i < l.length := by omega
    (repeat(first|refine yw ?_|((first|apply yd|apply ye);simp (disch:=first|exact zz|fail) only[go_sem,hT.len,hT.idx,hT.load];with_reducible rfl)))
    refine aops_call_to (joinIdx1_c (ints_atom (hT.row hi')) h0 (hne i hi')) ?_
    (refine yg ?_)
    refine cond_f rfl ?_
    (refine yg ?_)
    exact ⟨by omega,rfl,by simp [forget]⟩
  · (refine yg ?_)
    exact fin_1 ⟨rfl,rfl⟩
theorem joinIdx_c {l : List Tr} {us : List Value} {v : Value} {w : List UInt8} (hT : Trs H l us v) (hb : l.length ≤ 1000) (hne : ∀ i,i < l.length → (l.getD i tr0).nm ≠ w) :
    ACall Go.Proofs.Tryz.prog 70 [v,.string (bs w)] H fun v H' => v = .int .i64 (-1) ∧ H' = H := by
  refine ACall.drop (.int _ _) ?_
  (refine a70 ?_; simp only [n70,List.replicate,List.length_cons,List.length_nil,List.cons_append,List.nil_append]; first | refine Go.Lq.q1 ?_ | refine Go.Lq.q2 ?_ | refine Go.Lq.q6 ?_ | refine Go.Lq.q7 ?_ | refine Go.Lq.qh rfl ?_ | skip)
  have hbx : boxR (.string (bs w)) H = some (.pointer (some ⟨H.length,0,none⟩),H ++ [.cells true 0 [.string (bs w)]]) := rfl
  (repeat(first|refine yw ?_|((first|apply yd|apply ye);simp (disch:=first|exact zz|fail) only[go_sem,hbx];with_reducible rfl)))
  refine aops_call_to (idxFuncT_c (hT.ext ((Ext.refl H).app _)) at_new hb hne) ?_
  (refine yg ?_)
  exact fin_1 ⟨rfl,(Ext.refl H).app _⟩
theorem signalErr1_c : Asks (.func (.func 64) #[] #[]) (fun n => !decide (-32767 ≤ n ∧ n ≤ 32767)) := fun n H => by
  show ACall _ _ _ _ _
  simp only [List.append_nil,List.nil_append]
  (refine a64 ?_; simp only [n64,List.replicate,List.length_cons,List.length_nil,List.cons_append,List.nil_append]; first | refine Go.Lq.q1 ?_ | refine Go.Lq.q2 ?_ | refine Go.Lq.q6 ?_ | refine Go.Lq.q7 ?_ | refine Go.Lq.qh rfl ?_ | skip)
  (refine yg ?_)
  (refine aops_call_to (isSized_c n 32767 (by omega)) ?_)
  (refine yg ?_)
  exact fin_1 ⟨rfl,rfl⟩
theorem signalErr_c {l : List Int} {v : Value} (hl : Ints H l v) (hb : l.length ≤ 200) (hv : ∀ n ∈ l,-32767 ≤ n ∧ n ≤ 32767) : ACall Go.Proofs.Tryz.prog 41 [v] H fun v H' => v = .int .i64 0 ∧ H' = H := by
  refine ACall.drop (.int _ _) ?_
  have ha : (l.any fun n => !decide (-32767 ≤ n ∧ n ≤ 32767)) = false := List.any_eq_false.2 fun n hn => by have := hv n hn; simp; omega
  have hc := containsFunc_c hl signalErr1_c (by omega)
  rw [ha] at hc
  (refine a41 ?_; simp only [n41,List.replicate,List.length_cons,List.length_nil,List.cons_append,List.nil_append]; first | refine Go.Lq.q1 ?_ | refine Go.Lq.q2 ?_ | refine Go.Lq.q6 ?_ | refine Go.Lq.q7 ?_ | refine Go.Lq.qh rfl ?_ | skip)
  (refine yg ?_)
  (refine aops_call_to (hc) ?_)
  (repeat(first|refine yw ?_|((first|apply yd|apply ye);simp (disch:=first|exact zz|fail) only[go_sem,hl.len,hl.idx,hl.load,dec_t (show (l.length : Int) ≤ 200 by omega)];with_reducible rfl)))
  (refine aops_call_to (unless_c true 8) ?_)
  (refine yg ?_)
  (refine aops_call_to (unless_c true 2) ?_)
  (refine yg ?_)
  refine aops_call_to (first_c (l := [_,_]) (Ints.last (l := [_,_]) 2) (by simp)) ?_
  (refine yg ?_)
  exact fin_1 ⟨rfl,(Ext.refl H).app _⟩
theorem lengthErr_c {n : Int} (h : 1 ≤ n ∧ n ≤ 200) : ACall Go.Proofs.Tryz.prog 52 [.int .i64 n] H fun v H' => v = .int .i64 0 ∧ H' = H := by
  (refine a52 ?_; simp only [n52,List.replicate,List.length_cons,List.length_nil,List.cons_append,List.nil_append]; first | refine Go.Lq.q1 ?_ | refine Go.Lq.q2 ?_ | refine Go.Lq.q6 ?_ | refine Go.Lq.q7 ?_ | refine Go.Lq.qh rfl ?_ | skip)
  (refine yg ?_)
  (refine aops_call_to (within_c n 1 200) ?_)
  rw [dec_t h]
  (refine yg ?_)
  (refine aops_call_to (unless_c true 2) ?_)
  (refine yg ?_)
  exact fin_1 ⟨rfl,rfl⟩
theorem lagErr_c {n : Int} (h : -100 ≤ n ∧ n ≤ 100) : ACall Go.Proofs.Tryz.prog 71 [.int .i64 n] H fun v H' => v = .int .i64 0 ∧ H' = H := by
  (refine a71 ?_; simp only [n71,List.replicate,List.length_cons,List.length_nil,List.cons_append,List.nil_append]; first | refine Go.Lq.q1 ?_ | refine Go.Lq.q2 ?_ | refine Go.Lq.q6 ?_ | refine Go.Lq.q7 ?_ | refine Go.Lq.qh rfl ?_ | skip)
  (refine yg ?_)
  (refine aops_call_to (isSized_c n 100 (by omega)) ?_)
  rw [dec_t h]
  (refine yg ?_)
  (refine aops_call_to (unless_c true 2) ?_)
  (refine yg ?_)
  exact fin_1 ⟨rfl,rfl⟩
set_option maxHeartbeats 2000000 in
theorem checkTrs_c {l : List Tr} {us : List Value} {v : Value} (hT : Trs H l us v) (ho : TrsOk l) : ACall Go.Proofs.Tryz.prog 51 [v] H fun v H' => v = .tuple #[.int .i64 0,.int .i64 0] ∧ H' = H := by
  refine ACall.drop (closed_two _ _) ?_
  obtain ⟨h1,h2⟩ := ho.len
  (refine a51 ?_; simp only [n51,List.replicate,List.length_cons,List.length_nil,List.cons_append,List.nil_append]; first | refine Go.Lq.q1 ?_ | refine Go.Lq.q2 ?_ | refine Go.Lq.q6 ?_ | refine Go.Lq.q7 ?_ | refine Go.Lq.qh rfl ?_ | skip)
  (repeat(first|refine yw ?_|((first|apply yd|apply ye);simp (disch:=first|exact zz|fail) only[go_sem,hT.len,hT.idx,hT.load,dec_t (show (0 : Int) < l.length by omega),dec_t (show (l.length : Int) ≤ 6 by omega)];with_reducible rfl)))
  (refine aops_call_to (unless_c true 10) ?_)
  (repeat(first|refine yw ?_|((first|apply yd|apply ye);simp (disch:=first|exact zz|fail) only[go_sem,hT.len,hT.idx,hT.load,dec_t (show (l.length : Int) ≤ 6 by omega)];with_reducible rfl)))
  (refine aops_call_to (unless_c true 8) ?_)
  (refine yg ?_)
  refine aops_call_to (first_c (l := [_,_]) (Ints.last (l := [_,_]) 2) (by simp)) ?_
  (refine yg ?_)
  refine cond_f rfl ?_
  (repeat(first|refine yw ?_|((first|apply yd|apply ye);simp (disch:=first|exact zz|fail) only[go_sem,hT.len,hT.idx,hT.load];with_reducible rfl)))
  refine awp_loop_n [true,false,false,false,false,false,false,false,false,false,false,false,false,false,false,false,false,false,false,false,false,true,true,true,false,false,false,false,false,false,false,false,false,false,false,false,false,false,false,false,false,false,false,false,false,false,false,false,false,false,false,false,false] l.length (fun i e H' => Ext H H' ∧ e = [v,junk,junk,junk,junk,junk,junk,junk,junk,junk,junk,junk,junk,junk,junk,junk,junk,junk,junk,junk,junk,v,.int .i64 l.length,.int .i64 i,junk,junk,junk,junk,junk,junk,junk,junk,junk,junk,junk,junk,junk,junk,junk,junk,junk,junk,junk,junk,junk,junk,junk,junk,junk,junk,junk,junk,junk]) ?_ ?_
  · exact ⟨(Ext.refl H).app _,by simp [forget]⟩
  rintro i e G hi ⟨xG,rfl⟩
  have hG := hT.ext xG
  (refine yg ?_)
  refine cond_p rfl (fun hlt => ?_) (fun hge => ?_)
  · have hi' : i < l.length := by omega
    have hr := hG.row hi'
    have ok := ho.ok i hi'
    (repeat(first|refine yw ?_|((first|apply yd|apply ye);simp (disch:=first|exact zz|fail) only[go_sem,hG.len,hG.idx,hG.load,store_tr (ints_atom hr)];with_reducible rfl)))
    obtain ⟨K,hK⟩ : ∃ K,K = G ++ [AObj.cells true 0 [.string (bs (l.getD i tr0).nm),.int .i64 (l.getD i tr0).lag,us.getD i undef]] := ⟨_,rfl⟩
    have k0 : K[G.length]? = some (.cells true 0 [.string (bs (l.getD i tr0).nm),.int .i64 (l.getD i tr0).lag,us.getD i undef]) := by rw [hK]; exact at_new
    have xK : Ext G K := by rw [hK]; exact (Ext.refl G).app _
    rw [← hK]
    clear hK
    have hK := hG.ext xK
    (repeat(first|refine yw ?_|((first|apply yd|apply ye);simp (disch:=first|exact zz|fail) only[go_sem,load_at k0];with_reducible rfl)))
    (refine adraw_call (N := []) (firstD (isName_c ok.nm)) ?_; rw [List.append_nil])
    (refine yg ?_)
    (refine adraw_call (N := []) (firstD (unless_c true 4)) ?_; rw [List.append_nil])
    have hto : ∀ J : AHeap,sliceR 3 v none (some (.int .i64 (i : Int))) none J = some (toV v i,J) := fun J => Sl.to hT.2.1 (by omega) (by omega)
    (repeat(first|refine yw ?_|((first|apply yd|apply ye);simp (disch:=first|exact zz|fail) only[go_sem,load_at k0,hto];with_reducible rfl)))
    have hdis : ∀ k,k < (l.take i).length → ((l.take i).getD k tr0).nm ≠ (l.getD i tr0).nm := fun k hk => by
      have hk' : k < i := by simp at hk; omega
      have := ho.dis i k hk' hi'
      rwa [List.getD_eq_getElem?_getD,List.getElem?_take_of_lt hk',← List.getD_eq_getElem?_getD]
    (refine adraw_call (N := []) (firstD (joinIdx_c (hK.upto hi') (by simp; omega) hdis)) ?_; rw [List.append_nil])
    (refine yg ?_)
    (refine adraw_call (N := []) (firstD (unless_c true 5)) ?_; rw [List.append_nil])
    (repeat(first|refine yw ?_|((first|apply yd|apply ye);simp (disch:=first|exact zz|fail) only[go_sem,load_at k0];with_reducible rfl)))
    (refine adraw_call (N := []) (firstD (lagErr_c ok.lag)) ?_; rw [List.append_nil])
    (repeat(first|refine yw ?_|((first|apply yd|apply ye);simp (disch:=first|exact zz|fail) only[go_sem,load_at k0];with_reducible rfl)))
    (refine adraw_call (N := []) (firstD (signalErr_c (hr.ext xK) ok.len ok.val)) ?_; rw [List.append_nil])
    (refine yg ?_)
    (refine adraw_call (N := []) (firstD (first_c (l := [_,_,_,_]) (Ints.last (l := [_,_,_,_]) 4) (by simp))) ?_; rw [List.append_nil])
    (refine yg ?_)
    refine cond_f rfl ?_
    (refine yg ?_)
    exact ⟨by omega,(xG.trans xK).app _,by simp [forget]⟩
  · (refine yg ?_)
    exact fin_2 ⟨rfl,xG⟩
end
end Go.Lq

namespace Go.Lq
open Go
open Go.Proofs
def Tr.cov (t : Tr) (P k : Nat) : Bool := (List.range P).all fun j => t.has ((k * P + j : Nat) : Int)
theorem cov_all {t : Tr} {P k : Nat} (h : ∀ j,j < P → t.has ((k * P + j : Nat) : Int) = true) : t.cov P k = true := List.all_eq_true.2 fun j hj => h j (List.mem_range.1 hj)
theorem cov_at {t : Tr} {P k j : Nat} (h : t.cov P k = true) (hj : j < P) : t.has ((k * P + j : Nat) : Int) = true := List.all_eq_true.1 h j (List.mem_range.2 hj)
theorem cov_not {t : Tr} {P k j : Nat} (hj : j < P) (h : t.has ((k * P + j : Nat) : Int) = false) : t.cov P k = false := by
  cases hc : t.cov P k with
  | false => rfl
  | true => rw [cov_at hc hj] at h; cases h
structure TaskOk (l : List Tr) (N P : Nat) (c : Int) : Prop where
  trs : TrsOk l
  P1 : 1 ≤ P
  N1 : 1 ≤ N ∧ N ≤ 20
  len : N * P ≤ 200
  chg : 0 ≤ c ∧ c ≤ 1000000
  gap : ∀ k,k < N → ∃ i,i < l.length ∧ (l.getD i tr0).cov P k = true
section
variable {H : AHeap}
theorem has_c {t : Tr} {u : Value} {p : Int} (hu : Ints H t.s u) (hp : -1000000 ≤ p ∧ p ≤ 1000000) (hl : -100 ≤ t.lag ∧ t.lag ≤ 100) (hs : t.s.length ≤ 1000000) :
    ACall Go.Proofs.Tryz.prog 50 [trV t u,.int .i64 p] H fun v H' => v = .bool (t.has p) ∧ H' = H := by
  refine ACall.drop (.bool _) ?_
  unfold trV
  (refine a50 ?_; simp only [n50,List.replicate,List.length_cons,List.length_nil,List.cons_append,List.nil_append]; first | refine Go.Lq.q1 ?_ | refine Go.Lq.q2 ?_ | refine Go.Lq.q6 ?_ | refine Go.Lq.q7 ?_ | refine Go.Lq.qh rfl ?_ | skip)
  have hu1 := hu.ext ((Ext.refl H).app [.cells true 0 [.string (bs t.nm),.int .i64 t.lag,u]])
  (repeat(first|refine yw ?_|((first|apply yd|apply ye);simp (disch:=first|exact zz|fail) only[go_sem,hu1.len,hu1.idx,hu1.load,box_tr (ints_atom hu)];with_reducible rfl)))
  (refine aops_call_to (bwithin_c (p + t.lag) 0 ((t.s.length : Int) - 1)) ?_)
  (refine yg ?_)
  exact fin_1 ⟨rfl,(Ext.refl H).app _⟩
theorem refSignalErr_c {l : List Int} {v : Value} (hl : Ints H l v) : ACall Go.Proofs.Tryz.prog 68 [v] H fun v H' => (∃ e : Int,v = .int .i64 e ∧ (e = 0 → l.length ≤ 200 ∧ ∀ n ∈ l,-32767 ≤ n ∧ n ≤ 32767)) ∧ H' = H := by
  (refine a68 ?_; simp only [n68,List.replicate,List.length_cons,List.length_nil,List.cons_append,List.nil_append]; first | refine Go.Lq.q1 ?_ | refine Go.Lq.q2 ?_ | refine Go.Lq.q6 ?_ | refine Go.Lq.q7 ?_ | refine Go.Lq.qh rfl ?_ | skip)
  by_cases h1 : (200 : Int) < l.length
  · (repeat(first|refine yw ?_|((first|apply yd|apply ye);simp (disch:=first|exact zz|fail) only[go_sem,hl.len,hl.idx,hl.load,dec_t h1];with_reducible rfl)))
    refine cond_t rfl ?_
    (refine yg ?_)
    exact fin_1 ⟨⟨8,rfl,fun h => by cases h⟩,rfl⟩
  (repeat(first|refine yw ?_|((first|apply yd|apply ye);simp (disch:=first|exact zz|fail) only[go_sem,hl.len,hl.idx,hl.load,dec_f h1];with_reducible rfl)))
  refine cond_f rfl ?_
  (refine yg ?_)
  refine awp_loop_n [true,false,false,true,false,false,false,false,false,false,false,false,false,false,false,false,false,false,false] l.length (fun i e H' => H' = H ∧ e = [v,junk,junk,.int .i64 i,junk,junk,junk,junk,junk,junk,junk,junk,junk,junk,junk,junk,junk,junk,junk] ∧ ∀ j,j < i → -32767 ≤ l.getD j 0 ∧ l.getD j 0 ≤ 32767) ?_ ?_
  · exact ⟨rfl,by simp [forget],fun j hj => by omega⟩
  rintro i e H' hi ⟨rfl,rfl,hb⟩
  (repeat(first|refine yw ?_|((first|apply yd|apply ye);simp (disch:=first|exact zz|fail) only[go_sem,hl.len,hl.idx,hl.load];with_reducible rfl)))
  refine cond_p rfl (fun hlt => ?_) (fun hge => ?_)
  · have hi' : i < l.length := by omega
    (repeat(first|refine yw ?_|((first|apply yd|apply ye);simp (disch:=first|exact zz|fail) only[go_sem,hl.len,hl.idx,hl.load];with_reducible rfl)))
    (refine aops_call_to (bwithin_c (l.getD i 0) (-32767) 32767) ?_)
    by_cases h2 : -32767 ≤ l.getD i 0 ∧ l.getD i 0 ≤ 32767
    · rw [dec_t h2]
      (refine yg ?_)
      refine cond_f rfl ?_
      (refine yg ?_)
      refine ⟨by omega,rfl,by simp [forget],fun j hj => ?_⟩
      by_cases e : j = i
      · subst e; exact h2
      · exact hb j (by omega)
    · rw [dec_f h2]
      (refine yg ?_)
      refine cond_t rfl ?_
      (refine yg ?_)
      exact fin_1 ⟨⟨2,rfl,fun h => by cases h⟩,rfl⟩
  · obtain rfl : i = l.length := by omega
    (refine yg ?_)
    refine fin_1 ⟨⟨0,rfl,fun _ => ⟨by omega,fun n hn => ?_⟩⟩,rfl⟩
    obtain ⟨j,hj,ej⟩ := List.getElem_of_mem hn
    have := hb j hj
    rwa [List.getD_eq_getElem?_getD,List.getElem?_eq_getElem hj,Option.getD_some,ej] at this
set_option maxHeartbeats 2000000 in
theorem refCheckTrs_c {l : List Tr} {us : List Value} {v : Value} (hT : Trs H l us v) (hb : l.length ≤ 6) :
    ACall Go.Proofs.Tryz.prog 49 [v] H fun v H' => (∃ a e : Int,v = .tuple #[.int .i64 a,.int .i64 e] ∧ (e = 0 → TrsOk l)) ∧ H' = H := by
  (refine a49 ?_; simp only [n49,List.replicate,List.length_cons,List.length_nil,List.cons_append,List.nil_append]; first | refine Go.Lq.q1 ?_ | refine Go.Lq.q2 ?_ | refine Go.Lq.q6 ?_ | refine Go.Lq.q7 ?_ | refine Go.Lq.qh rfl ?_ | skip)
  by_cases h0 : (l.length : Int) = 0
  · (repeat(first|refine yw ?_|((first|apply yd|apply ye);simp (disch:=first|exact zz|fail) only[go_sem,hT.len,hT.idx,hT.load,dec_t h0];with_reducible rfl)))
    refine cond_t rfl ?_
    (refine yg ?_)
    exact fin_2 ⟨⟨0,10,rfl,fun h => by cases h⟩,rfl⟩
  (repeat(first|refine yw ?_|((first|apply yd|apply ye);simp (disch:=first|exact zz|fail) only[go_sem,hT.len,hT.idx,hT.load,dec_f h0];with_reducible rfl)))
  refine cond_f rfl ?_
  (repeat(first|refine yw ?_|((first|apply yd|apply ye);simp (disch:=first|exact zz|fail) only[go_sem,hT.len,hT.idx,hT.load,dec_f (show ¬ (6 : Int) < l.length by omega)];with_reducible rfl)))
  refine cond_f rfl ?_
  (refine yg ?_)
  refine awp_loop_n [true,false,false,false,true,false,false,false,false,false,false,false,false,false,false,false,false,false,false,false,false,false,false,false,false,false,false,false,false,false,false,false,false,false,false,false,false,false,false,false,false,false,false,false,false,false,false,false,false,false,false,false,false,false,false,false,false,false,false,false,false,false] l.length (fun i e H' => H' = H ∧ e = [v,junk,junk,junk,.int .i64 i,junk,junk,junk,junk,junk,junk,junk,junk,junk,junk,junk,junk,junk,junk,junk,junk,junk,junk,junk,junk,junk,junk,junk,junk,junk,junk,junk,junk,junk,junk,junk,junk,junk,junk,junk,junk,junk,junk,junk,junk,junk,junk,junk,junk,junk,junk,junk,junk,junk,junk,junk,junk,junk,junk,junk,junk,junk] ∧ ∀ j,j < i → TrOk (l.getD j tr0) ∧ ∀ k,k < j → (l.getD k tr0).nm ≠ (l.getD j tr0).nm) ?_ ?_
  · exact ⟨rfl,by simp [forget],fun j hj => by omega⟩
  rintro i e H' hi ⟨rfl,rfl,hbf⟩
  (repeat(first|refine yw ?_|((first|apply yd|apply ye);simp (disch:=first|exact zz|fail) only[go_sem,hT.len,hT.idx,hT.load];with_reducible rfl)))
  refine cond_p rfl (fun hlt => ?_) (fun hge => ?_)
  rotate_left 1
  · obtain rfl : i = l.length := by omega
    (refine yg ?_)
    exact fin_2 ⟨⟨0,0,rfl,fun _ => ⟨by omega,fun j hj => (hbf j hj).1,fun j k hk hj => (hbf j hj).2 k hk⟩⟩,rfl⟩
  have hi' : i < l.length := by omega
  have hr := hT.row hi'
  (repeat(first|refine yw ?_|((first|apply yd|apply ye);simp (disch:=first|exact zz|fail) only[go_sem,hT.len,hT.idx,hT.load];with_reducible rfl)))
  refine aops_call ((bisName_c (l := (l.getD i tr0).nm)).mono fun w H1 ⟨⟨b,e1,hnm⟩,e2⟩ => ?_)
  subst e1
  subst e2
  cases b with
  | false =>
    (refine yg ?_)
    refine cond_t rfl ?_
    (refine yg ?_)
    exact fin_2 ⟨⟨i,4,rfl,fun h => by cases h⟩,rfl⟩
  | true =>
  have hnm := hnm rfl
  (refine yg ?_)
  refine cond_f rfl ?_
  (refine yg ?_)
  refine awp_loop_n [true,false,false,false,true,true,false,false,false,false,false,false,false,false,false,false,false,false,false,false,false,false,false,false,false,false,false,false,false,false,false,false,false,false,false,false,false,false,false,false,false,false,false,false,false,false,false,false,false,false,false,false,false,false,false,false,false,false,false,false,false,false] i (fun k e H' => H1 = H' ∧ e = [v,junk,junk,junk,.int .i64 i,.int .i64 k,junk,junk,junk,junk,junk,junk,junk,junk,junk,junk,junk,junk,junk,junk,junk,junk,junk,junk,junk,junk,junk,junk,junk,junk,junk,junk,junk,junk,junk,junk,junk,junk,junk,junk,junk,junk,junk,junk,junk,junk,junk,junk,junk,junk,junk,junk,junk,junk,junk,junk,junk,junk,junk,junk,junk,junk] ∧ ∀ j,j < k → (l.getD j tr0).nm ≠ (l.getD i tr0).nm) ?_ ?_
  · exact ⟨rfl,by simp [forget],fun j hj => by omega⟩
  rintro k e H' hk ⟨rfl,rfl,hd⟩
  (refine yg ?_)
  refine cond_p rfl (fun hlt2 => ?_) (fun hge2 => ?_)
  · have hk' : k < i := by omega
    have hkl : k < l.length := by omega
    by_cases hn : (l.getD k tr0).nm = (l.getD i tr0).nm
    · (repeat(first|refine yw ?_|((first|apply yd|apply ye);simp (disch:=first|exact zz|fail) only[go_sem,hT.len,hT.idx,hT.load,dec_t hn];with_reducible rfl)))
      refine cond_t rfl ?_
      (refine yg ?_)
      exact fin_2 ⟨⟨i,5,rfl,fun h => by cases h⟩,rfl⟩
    · (repeat(first|refine yw ?_|((first|apply yd|apply ye);simp (disch:=first|exact zz|fail) only[go_sem,hT.len,hT.idx,hT.load,dec_f hn];with_reducible rfl)))
      refine cond_f rfl ?_
      (refine yg ?_)
      refine ⟨by omega,rfl,by simp [forget],fun j hj => ?_⟩
      by_cases e : j = k
      · subst e; exact hn
      · exact hd j (by omega)
  obtain rfl : k = i := by omega
  (repeat(first|refine yw ?_|((first|apply yd|apply ye);simp (disch:=first|exact zz|fail) only[go_sem,hT.len,hT.idx,hT.load];with_reducible rfl)))
  (refine aops_call_to (bwithin_c (l.getD k tr0).lag (-100) 100) ?_)
  by_cases hlag : -100 ≤ (l.getD k tr0).lag ∧ (l.getD k tr0).lag ≤ 100
  rotate_left 1
  · rw [dec_f hlag]
    (refine yg ?_)
    refine cond_t rfl ?_
    (refine yg ?_)
    exact fin_2 ⟨⟨k,2,rfl,fun h => by cases h⟩,rfl⟩
  rw [dec_t hlag]
  (refine yg ?_)
  refine cond_f rfl ?_
  (repeat(first|refine yw ?_|((first|apply yd|apply ye);simp (disch:=first|exact zz|fail) only[go_sem,hT.len,hT.idx,hT.load];with_reducible rfl)))
  refine aops_call ((refSignalErr_c hr).mono fun w H2 ⟨⟨e,e1,hsg⟩,e2⟩ => ?_)
  subst e1
  subst e2
  by_cases he : e = 0
  · subst he
    obtain ⟨hs1,hs2⟩ := hsg rfl
    (refine yg ?_)
    refine cond_f rfl ?_
    (refine yg ?_)
    refine ⟨by omega,rfl,by simp [forget],fun j hj => ?_⟩
    by_cases e : j = k
    · subst e; exact ⟨⟨hnm,hlag,hs1,hs2⟩,hd⟩
    · exact hbf j (by omega)
  · (repeat(first|refine yw ?_|((first|apply yd|apply ye);simp (disch:=first|exact zz|fail) only[go_sem,dec_t he];with_reducible rfl)))
    refine cond_t rfl ?_
    (refine yg ?_)
    exact fin_2 ⟨⟨k,e,rfl,fun h => absurd h he⟩,rfl⟩
theorem refTrsErr_c {l : List Tr} {us : List Value} {v : Value} (hT : Trs H l us v) (hb : l.length ≤ 6) :
    ACall Go.Proofs.Tryz.prog 18 [v] H fun v H' => (∃ e : Int,v = .int .i64 e ∧ (e = 0 → TrsOk l)) ∧ H' = H := by
  (refine a18 ?_; simp only [n18,List.replicate,List.length_cons,List.length_nil,List.cons_append,List.nil_append]; first | refine Go.Lq.q1 ?_ | refine Go.Lq.q2 ?_ | refine Go.Lq.q6 ?_ | refine Go.Lq.q7 ?_ | refine Go.Lq.qh rfl ?_ | skip)
  (refine yg ?_)
  refine aops_call ((refCheckTrs_c hT hb).mono fun w H2 ⟨⟨a,e,e1,ho⟩,e2⟩ => ?_)
  subst e1
  subst e2
  (refine yg ?_)
  exact fin_1 ⟨⟨e,rfl,ho⟩,rfl⟩
end
end Go.Lq

namespace Go.Lq
open Go
open Go.Proofs
theorem box_tk {v : Value} {a b c : Int} (h : isAtom v = true) {H : AHeap} : boxR (.agg ⟨[v,.int .i64 a,.int .i64 b,.int .i64 c]⟩) H = some (.pointer (some ⟨H.length,0,none⟩),H ++ [.cells true 0 [v,.int .i64 a,.int .i64 b,.int .i64 c]]) :=
  box_agg (by simp [h,isAtom_int])
theorem store_all {id e n : Nat} {H : AHeap} {vs us : List Value} (h : H[id]? = some (.cells true e vs)) (hl : us.length = vs.length) (hn : us.length = n) (ha : us.all isAtom = true) : storeR n (.pointer (some ⟨id,0,none⟩)) (.agg ⟨us⟩) H = some (undef,H.set id (.cells true e us)) := by
  subst hn
  have e1 : (Value.agg ⟨us⟩).cells = ⟨us⟩ := rfl
  simp only [storeR,e1,List.size_toArray,if_true,storeAt,h,ha,and_true,Nat.zero_add]
  rw [if_pos (by omega)]
  simp only [Option.map_some,setCells,List.take_zero,List.nil_append,Nat.zero_add]
  rw [List.drop_eq_nil_of_le (by omega),List.append_nil]
theorem Trs.atom {H : AHeap} {l : List Tr} {us : List Value} {v : Value} (h : Trs H l us v) : isAtom v = true := by
  rcases h.2.1.2 with ⟨rfl,_⟩ | ⟨id,off,c,rfl,_⟩ <;> rfl
section
variable {H : AHeap}
set_option maxHeartbeats 1000000 in
theorem covers_c {l : List Tr} {us : List Value} {v : Value} {len c : Int} {P i k : Nat} (hT : Trs H l us v) (ho : TrsOk l) (hi : i < l.length) (hP : P ≤ 200) (hk : k ≤ 200) :
    ACall Go.Proofs.Tryz.prog 20 [.agg ⟨[v,.int .i64 len,.int .i64 (P : Int),.int .i64 c]⟩,.int .i64 (i : Int),.int .i64 (k : Int)] H fun w H' => w = .bool ((l.getD i tr0).cov P k) ∧ H' = H := by
  refine ACall.drop (.bool _) ?_
  have hkP : k * P ≤ 200 * 200 := Nat.mul_le_mul hk hP
  have e1 : (k : Int) * (P : Int) = ((k * P : Nat) : Int) := (Int.natCast_mul k P).symm
  have e2 : ((k : Int) + 1) * (P : Int) = ((k * P + P : Nat) : Int) := by rw [Int.add_mul,Int.one_mul,Int.natCast_add,Int.natCast_mul]
  obtain ⟨m,hm⟩ : ∃ m,m = k * P := ⟨_,rfl⟩
  rw [← hm] at e1 e2 hkP
  have ok := ho.ok i hi
  obtain ⟨ok1,ok2⟩ := ok.lag
  have ok3 := ok.len
  (refine a20 ?_; simp only [n20,List.replicate,List.length_cons,List.length_nil,List.cons_append,List.nil_append]; first | refine Go.Lq.q1 ?_ | refine Go.Lq.q2 ?_ | refine Go.Lq.q6 ?_ | refine Go.Lq.q7 ?_ | refine Go.Lq.qh rfl ?_ | skip)
  (repeat(first|refine yw ?_|((first|apply yd|apply ye);simp (disch:=first|exact zz|fail) only[go_sem,box_tk hT.atom];with_reducible rfl)))
  obtain ⟨G,hG⟩ : ∃ G,G = H ++ [AObj.cells true 0 [v,.int .i64 len,.int .i64 (P : Int),.int .i64 c]] := ⟨_,rfl⟩
  have g0 : G[H.length]? = some (.cells true 0 [v,.int .i64 len,.int .i64 (P : Int),.int .i64 c]) := by rw [hG]; exact at_new
  have xG : Ext H G := by rw [hG]; exact (Ext.refl H).app _
  rw [← hG]
  clear hG
  have hG := hT.ext xG
  (repeat(first|refine yw ?_|((first|apply yd|apply ye);simp (disch:=first|exact zz|fail) only[go_sem,load_at g0,e1];with_reducible rfl)))
  refine awp_loop_n [false,true,true,true,false,false,false,true,false,false,false,false,false,false,false,false,false,false,false,false,false,false,false,false,false,false,false,false,false] P (fun j e H' => H' = G ∧ e = [junk,.int .i64 (i : Int),.int .i64 (k : Int),.pointer (some ⟨H.length,0,none⟩),junk,junk,junk,.int .i64 ((m + j : Nat) : Int),junk,junk,junk,junk,junk,junk,junk,junk,junk,junk,junk,junk,junk,junk,junk,junk,junk,junk,junk,junk,junk] ∧ ∀ q,q < j → (l.getD i tr0).has ((m + q : Nat) : Int) = true) ?_ ?_
  · exact ⟨rfl,by simp [forget,e1],fun q hq => by omega⟩
  rintro j e H' hj ⟨rfl,rfl,hb⟩
  (repeat(first|refine yw ?_|((first|apply yd|apply ye);simp (disch:=first|exact zz|fail) only[go_sem,load_at g0,e2];with_reducible rfl)))
  refine cond_p rfl (fun hlt => ?_) (fun hge => ?_)
  · have hj' : j < P := by omega
    have hr := hG.row hi
    (repeat(first|refine yw ?_|((first|apply yd|apply ye);simp (disch:=first|exact zz|fail) only[go_sem,hG.len,hG.idx,hG.load,load_at g0];with_reducible rfl)))
    refine aops_call_to (has_c (p := ((m + j : Nat) : Int)) hr (by omega) ok.lag (by omega)) ?_
    cases hh : (l.getD i tr0).has ((m + j : Nat) : Int) with
    | true =>
      (refine yg ?_)
      refine cond_f rfl ?_
      (refine yg ?_)
      refine ⟨by omega,rfl,by simp [forget]; omega,fun q hq => ?_⟩
      by_cases e : q = j
      · subst e; exact hh
      · exact hb q (by omega)
    | false =>
      (refine yg ?_)
      refine cond_t rfl ?_
      (refine yg ?_)
      exact fin_1 ⟨by rw [cov_not hj' (by rw [← hm]; exact hh)]; rfl,xG⟩
  · obtain rfl : j = P := by omega
    (refine yg ?_)
    exact fin_1 ⟨by rw [cov_all fun q hq => by rw [← hm]; exact hb q hq]; rfl,xG⟩
theorem refLengthErr_c {n : Int} : ACall Go.Proofs.Tryz.prog 19 [.int .i64 n] H fun v H' => v = .int .i64 (if 1 ≤ n ∧ n ≤ 200 then 0 else 2) ∧ H' = H := by
  (refine a19 ?_; simp only [n19,List.replicate,List.length_cons,List.length_nil,List.cons_append,List.nil_append]; first | refine Go.Lq.q1 ?_ | refine Go.Lq.q2 ?_ | refine Go.Lq.q6 ?_ | refine Go.Lq.q7 ?_ | refine Go.Lq.qh rfl ?_ | skip)
  (refine yg ?_)
  (refine aops_call_to (bwithin_c n 1 200) ?_)
  by_cases h : 1 ≤ n ∧ n ≤ 200
  · rw [dec_t h,if_pos h]
    (refine yg ?_)
    refine cond_f rfl ?_
    (refine yg ?_)
    exact fin_1 ⟨rfl,rfl⟩
  · rw [dec_f h,if_neg h]
    (refine yg ?_)
    refine cond_t rfl ?_
    (refine yg ?_)
    exact fin_1 ⟨rfl,rfl⟩
set_option maxHeartbeats 2000000 in
theorem refTaskErr_c {l : List Tr} {us : List Value} {v : Value} {len pas chg : Int} (hT : Trs H l us v) (hb : l.length ≤ 6) (hpi : -9223372036854775808 ≤ pas ∧ pas ≤ 9223372036854775807) :
    ACall Go.Proofs.Tryz.prog 5 [.agg ⟨[v,.int .i64 len,.int .i64 pas,.int .i64 chg]⟩] H fun w H' => Ext H H' ∧ ∃ e : Int,w = .int .i64 e ∧ (e = 0 → ∃ N P : Nat,len = ((N * P : Nat) : Int) ∧ pas = (P : Int) ∧ TaskOk l N P chg) := by
  (refine a5 ?_; simp only [n5,List.replicate,List.length_cons,List.length_nil,List.cons_append,List.nil_append]; first | refine Go.Lq.q1 ?_ | refine Go.Lq.q2 ?_ | refine Go.Lq.q6 ?_ | refine Go.Lq.q7 ?_ | refine Go.Lq.qh rfl ?_ | skip)
  (repeat(first|refine yw ?_|((first|apply yd|apply ye);simp (disch:=first|exact zz|fail) only[go_sem,box_tk hT.atom];with_reducible rfl)))
  obtain ⟨G,hG⟩ : ∃ G,G = H ++ [AObj.cells true 0 [v,.int .i64 len,.int .i64 pas,.int .i64 chg]] := ⟨_,rfl⟩
  have g0 : G[H.length]? = some (.cells true 0 [v,.int .i64 len,.int .i64 pas,.int .i64 chg]) := by rw [hG]; exact at_new
  have xG : Ext H G := by rw [hG]; exact (Ext.refl H).app _
  rw [← hG]
  clear hG
  have hG := hT.ext xG
  (repeat(first|refine yw ?_|((first|apply yd|apply ye);simp (disch:=first|exact zz|fail) only[go_sem,load_at g0];with_reducible rfl)))
  refine aops_call ((refTrsErr_c hG hb).mono fun w H2 ⟨⟨e,e1,ho⟩,e2⟩ => ?_)
  subst e1
  subst e2
  by_cases he : e = 0
  rotate_left 1
  · (repeat(first|refine yw ?_|((first|apply yd|apply ye);simp (disch:=first|exact zz|fail) only[go_sem,dec_t he];with_reducible rfl)))
    refine cond_t rfl ?_
    (refine yg ?_)
    exact fin_1 ⟨xG,e,rfl,fun h => absurd h he⟩
  replace ho := ho he
  subst he
  (refine yg ?_)
  refine cond_f rfl ?_
  (repeat(first|refine yw ?_|((first|apply yd|apply ye);simp (disch:=first|exact zz|fail) only[go_sem,load_at g0];with_reducible rfl)))
  (refine aops_call_to (refLengthErr_c (n := len)) ?_)
  by_cases hl : 1 ≤ len ∧ len ≤ 200
  rotate_left 1
  · rw [if_neg hl]
    (refine yg ?_)
    refine cond_t rfl ?_
    (refine yg ?_)
    exact fin_1 ⟨xG,2,rfl,fun h => by cases h⟩
  rw [if_pos hl]
  (refine yg ?_)
  refine cond_f rfl ?_
  (repeat(first|refine yw ?_|((first|apply yd|apply ye);simp (disch:=first|exact zz|fail) only[go_sem,load_at g0];with_reducible rfl)))
  (refine aops_call_to (bwithin_c pas 1 len) ?_)
  by_cases hp : 1 ≤ pas ∧ pas ≤ len
  rotate_left 1
  · rw [dec_f hp]
    (refine yg ?_)
    refine cond_t rfl ?_
    (refine yg ?_)
    exact fin_1 ⟨xG,2,rfl,fun h => by cases h⟩
  rw [dec_t hp]
  (repeat(first|refine yw ?_|((first|apply yd|apply ye);simp (disch:=first|exact zz|fail) only[go_sem,load_at g0];with_reducible rfl)))
  (refine aops_call_to (bwithin_c chg 0 1000000) ?_)
  by_cases hc : 0 ≤ chg ∧ chg ≤ 1000000
  rotate_left 1
  · rw [dec_f hc]
    (refine yg ?_)
    refine cond_t rfl ?_
    (refine yg ?_)
    exact fin_1 ⟨xG,2,rfl,fun h => by cases h⟩
  rw [dec_t hc]
  (refine yg ?_)
  refine cond_f rfl ?_
  obtain ⟨P,rfl⟩ := Int.eq_ofNat_of_zero_le (show 0 ≤ pas by omega)
  obtain ⟨L,rfl⟩ := Int.eq_ofNat_of_zero_le (show 0 ≤ len by omega)
  have hP1 : 1 ≤ P := by omega
  have er : (L : Int).tmod (P : Int) = ((L % P : Nat) : Int) := by rw [Int.tmod_eq_emod_of_nonneg (by omega)]; rfl
  have eq' : (L : Int).tdiv (P : Int) = ((L / P : Nat) : Int) := by rw [Int.tdiv_eq_ediv_of_nonneg (by omega)]; rfl
  have hne : (P : Int) ≠ 0 := by omega
  by_cases hm : L % P = 0
  rotate_left 1
  · (repeat(first|refine yw ?_|((first|apply yd|apply ye);simp (disch:=first|exact zz|fail) only[go_sem,load_at g0,er,dec_t (show ((L % P : Nat) : Int) ≠ 0 by omega)];with_reducible rfl)))
    refine cond_t rfl ?_
    (refine yg ?_)
    exact fin_1 ⟨xG,10,rfl,fun h => by cases h⟩
  (repeat(first|refine yw ?_|((first|apply yd|apply ye);simp (disch:=first|exact zz|fail) only[go_sem,load_at g0,er,dec_f (show ¬ ((L % P : Nat) : Int) ≠ 0 by omega)];with_reducible rfl)))
  refine cond_f rfl ?_
  obtain ⟨N,hN⟩ : ∃ N,N = L / P := ⟨_,rfl⟩
  rw [← hN] at eq'
  have hLN : L = N * P := by have := Nat.div_add_mod L P; rw [hm,Nat.add_zero,← hN,Nat.mul_comm] at this; exact this.symm
  have hNL : N ≤ L := by rw [hN]; exact Nat.div_le_self ..
  by_cases hN20 : N ≤ 20
  rotate_left 1
  · (repeat(first|refine yw ?_|((first|apply yd|apply ye);simp (disch:=first|exact zz|fail) only[go_sem,load_at g0,eq',dec_t (show (20 : Int) < (N : Int) by omega)];with_reducible rfl)))
    refine cond_t rfl ?_
    (refine yg ?_)
    exact fin_1 ⟨xG,8,rfl,fun h => by cases h⟩
  (repeat(first|refine yw ?_|((first|apply yd|apply ye);simp (disch:=first|exact zz|fail) only[go_sem,load_at g0,eq',dec_f (show ¬ (20 : Int) < (N : Int) by omega)];with_reducible rfl)))
  refine cond_f rfl ?_
  (refine yg ?_)
  refine awp_loop_n [false,true,false,false,false,true,false,false,false,false,false,false,false,false,false,false,false,false,false,false,false,false,false,false,false,false,false,false,false,false,false,false,false,false,false,false,false,false,false,false,false,false,false,false,false,false,false,false,false,false,false,false,false,false,false,false,false,false,false,false,false,false,false,false,false,false,false,false,false] N (fun k e H' => H2 = H' ∧ e = [junk,.pointer (some ⟨H.length,0,none⟩),junk,junk,junk,.int .i64 (k : Int),junk,junk,junk,junk,junk,junk,junk,junk,junk,junk,junk,junk,junk,junk,junk,junk,junk,junk,junk,junk,junk,junk,junk,junk,junk,junk,junk,junk,junk,junk,junk,junk,junk,junk,junk,junk,junk,junk,junk,junk,junk,junk,junk,junk,junk,junk,junk,junk,junk,junk,junk,junk,junk,junk,junk,junk,junk,junk,junk,junk,junk,junk,junk] ∧ ∀ q,q < k → ∃ i,i < l.length ∧ (l.getD i tr0).cov P q = true) ?_ ?_
  · exact ⟨rfl,by simp [forget],fun q hq => by omega⟩
  rintro k e H' hk ⟨rfl,rfl,hb2⟩
  (repeat(first|refine yw ?_|((first|apply yd|apply ye);simp (disch:=first|exact zz|fail) only[go_sem,load_at g0,eq'];with_reducible rfl)))
  refine cond_p rfl (fun hlt => ?_) (fun hge => ?_)
  rotate_left 1
  · obtain rfl : k = N := by omega
    (refine yg ?_)
    refine fin_1 ⟨xG,0,rfl,fun _ => ⟨k,P,by rw [hLN],rfl,ho,hP1,⟨?_,hN20⟩,by omega,hc,hb2⟩⟩
    rcases Nat.eq_zero_or_pos k with h | h
    · subst h; omega
    · exact h
  (refine yg ?_)
  refine awp_loop_n [false,true,false,false,false,true,true,true,false,false,false,false,false,false,false,false,false,false,false,false,false,false,false,false,false,false,false,false,false,false,false,false,false,false,false,false,false,false,false,false,false,false,false,false,false,false,false,false,false,false,false,false,false,false,false,false,false,false,false,false,false,false,false,false,false,false,false,false,false] l.length (fun i e H' => H2 = H' ∧ ∃ b : Bool,e = [junk,.pointer (some ⟨H.length,0,none⟩),junk,junk,junk,.int .i64 (k : Int),.bool b,.int .i64 (i : Int),junk,junk,junk,junk,junk,junk,junk,junk,junk,junk,junk,junk,junk,junk,junk,junk,junk,junk,junk,junk,junk,junk,junk,junk,junk,junk,junk,junk,junk,junk,junk,junk,junk,junk,junk,junk,junk,junk,junk,junk,junk,junk,junk,junk,junk,junk,junk,junk,junk,junk,junk,junk,junk,junk,junk,junk,junk,junk,junk,junk,junk] ∧ (b = true → ∃ i,i < l.length ∧ (l.getD i tr0).cov P k = true)) ?_ ?_
  · exact ⟨rfl,false,by simp [forget],fun h => by cases h⟩
  rintro i e H' hi ⟨rfl,b,rfl,hbb⟩
  (repeat(first|refine yw ?_|((first|apply yd|apply ye);simp (disch:=first|exact zz|fail) only[go_sem,hG.len,hG.idx,hG.load,load_at g0];with_reducible rfl)))
  refine cond_p rfl (fun hlt2 => ?_) (fun hge2 => ?_)
  · have hi' : i < l.length := by omega
    cases b with
    | true =>
      (refine yg ?_)
      exact ⟨by omega,rfl,true,by simp [forget],hbb⟩
    | false =>
      (repeat(first|refine yw ?_|((first|apply yd|apply ye);simp (disch:=first|exact zz|fail) only[go_sem,loadN_at g0];with_reducible rfl)))
      (refine aops_call_to (covers_c (c := chg) (len := ((L : Nat) : Int)) (P := P) (k := k) hG ho hi' (by omega) (by omega)) ?_)
      (refine yg ?_)
      exact ⟨by omega,rfl,(l.getD i tr0).cov P k,by simp [forget],fun h => ⟨i,hi',h⟩⟩
  · cases b with
    | true =>
      (refine yg ?_)
      refine cond_f rfl ?_
      (refine yg ?_)
      refine ⟨by omega,rfl,by simp [forget],fun q hq => ?_⟩
      by_cases e : q = k
      · subst e; exact hbb rfl
      · exact hb2 q (by omega)
    | false =>
      (refine yg ?_)
      refine cond_t rfl ?_
      (refine yg ?_)
      exact fin_1 ⟨xG,14,rfl,fun h => by cases h⟩
end
end Go.Lq

namespace Go.Lq
open Go
open Go.Proofs
def szI (n : Int) : Int := max n (-n)
def sumN (f : Nat → Int) : Nat → Int
  | 0 => 0
  | n + 1 => sumN f n + f n
theorem sumN_bound {f : Nat → Int} {b : Int} : ∀ {n : Nat},(∀ j,j < n → 0 ≤ f j ∧ f j ≤ b) → 0 ≤ sumN f n ∧ sumN f n ≤ b * n
  | 0,_ => by simp [sumN]
  | n + 1,h => by
    have := sumN_bound (n := n) fun j hj => h j (by omega)
    have := h n (by omega)
    simp only [sumN]
    push_cast
    rw [Int.mul_add,Int.mul_one]
    omega
def medT (l : List Tr) (p : Int) : Int := medI (pres l p)
def devF (l : List Tr) (P k : Nat) (t : Tr) (j : Nat) : Int := szI (t.at ((k * P + j : Nat) : Int) - medT l ((k * P + j : Nat) : Int))
def devE (l : List Tr) (P k : Nat) (t : Tr) : Int := if t.cov P k = true then sumN (devF l P k t) P else -1
theorem at_bound {t : Tr} (h : TrOk t) (p : Int) : -32767 ≤ t.at p ∧ t.at p ≤ 32767 := by
  unfold Tr.at
  rw [List.getD_eq_getElem?_getD]
  by_cases hi : (p + t.lag).toNat < t.s.length
  · rw [List.getElem?_eq_getElem hi]
    exact h.val _ (List.getElem_mem hi)
  · rw [List.getElem?_eq_none (by omega)]
    simp
theorem ok_mem {l : List Tr} (ho : TrsOk l) {t : Tr} (ht : t ∈ l) : TrOk t := by
  obtain ⟨i,hi,e⟩ := List.getElem_of_mem ht
  have := ho.ok i hi
  rwa [List.getD_eq_getElem?_getD,List.getElem?_eq_getElem hi,Option.getD_some,e] at this
theorem pres_bound {l : List Tr} (ho : TrsOk l) (p : Int) : ∀ n ∈ pres l p,-32767 ≤ n ∧ n ≤ 32767 := fun n hn => by
  obtain ⟨t,ht,rfl⟩ := List.mem_map.1 hn
  exact at_bound (ok_mem ho ((List.mem_filter.1 ht).1)) p
theorem medT_bound {l : List Tr} (ho : TrsOk l) (p : Int) : -32767 ≤ medT l p ∧ medT l p ≤ 32767 := medI_bound (by decide) (pres_bound ho p)
theorem devF_bound {l : List Tr} (ho : TrsOk l) {t : Tr} (h : TrOk t) (P k j : Nat) : 0 ≤ devF l P k t j ∧ devF l P k t j ≤ 65534 := by
  have h1 := at_bound h ((k * P + j : Nat) : Int)
  have h2 := medT_bound ho ((k * P + j : Nat) : Int)
  unfold devF szI
  omega
theorem devE_bound {l : List Tr} (ho : TrsOk l) {t : Tr} (h : TrOk t) {P k : Nat} (hP : P ≤ 200) : devE l P k t = -1 ∨ (0 ≤ devE l P k t ∧ devE l P k t ≤ 65534 * P) := by
  unfold devE
  split
  · exact .inr (sumN_bound fun j _ => devF_bound ho h P k j)
  · exact .inl rfl
theorem devE_ne {l : List Tr} (ho : TrsOk l) {t : Tr} (h : TrOk t) {P k : Nat} (hP : P ≤ 200) : devE l P k t ≠ -1 ↔ t.cov P k = true := by
  have hb := sumN_bound (f := devF l P k t) (n := P) fun j _ => devF_bound ho h P k j
  unfold devE
  cases hc : t.cov P k with
  | true => simp; omega
  | false => simp
section
variable {H : AHeap}
theorem shr_1 {a : Int} {k : IntKind} {H : AHeap} : shrR (.int .i64 a) (.int k 1) H = some (.int .i64 (a / 2),H) := by
  have e : min (1 : Int).toNat (IntKind.i64).bits = 1 := by decide
  simp only [shrR]
  rw [if_neg (by decide),e,Int.fdiv_eq_ediv_of_nonneg _ (by decide)]
  rfl
set_option maxHeartbeats 2000000 in
theorem median_c {l : List Tr} {us : List Value} {v : Value} {p : Int} (hT : Trs H l us v) (ho : TrsOk l) (hp : 0 ≤ p ∧ p ≤ 1000) :
    ACall Go.Proofs.Tryz.prog 73 [v,.int .i64 p] H fun w H' => w = .tuple #[.int .i64 (medT l p),.bool (decide (pres l p ≠ []))] ∧ H' = H := by
  refine ACall.drop (closed_ib _ _) ?_
  obtain ⟨hn1,hn2⟩ := ho.len
  (refine a73 ?_; simp only [n73,List.replicate,List.length_cons,List.length_nil,List.cons_append,List.nil_append]; first | refine Go.Lq.q1 ?_ | refine Go.Lq.q2 ?_ | refine Go.Lq.q6 ?_ | refine Go.Lq.q7 ?_ | refine Go.Lq.qh rfl ?_ | skip)
  (repeat(first|refine yw ?_|((first|apply yd|apply ye);simp (disch:=first|exact zz|fail) only[go_sem,hT.len,hT.idx,hT.load];with_reducible rfl)))
  refine awp_loop_n [false,true,false,false,false,false,true,false,false,false,false,true,true,true,false,false,false,false,false,false,false,false,false,false,false,false,false,false,false,false,false,false,false,false,false,false,false,false,false,false,false,false,false,false,false,false,false,false,false] l.length (fun i e H' => ∃ av,e = [junk,.int .i64 p,junk,junk,junk,junk,av,junk,junk,junk,junk,v,.int .i64 l.length,.int .i64 (i : Int),junk,junk,junk,junk,junk,junk,junk,junk,junk,junk,junk,junk,junk,junk,junk,junk,junk,junk,junk,junk,junk,junk,junk,junk,junk,junk,junk,junk,junk,junk,junk,junk,junk,junk,junk] ∧ OwnI H H' (pres (l.take i) p) av ∧ Ext H H') ?_ ?_
  · exact ⟨.slice none 0 0,by simp [forget],by simp [pres]; exact OwnI.nil _ _,Ext.refl _⟩
  rintro i e G hi ⟨av,rfl,oG,xG⟩
  have hG := hT.ext xG
  (refine yg ?_)
  refine cond_p rfl (fun hlt => ?_) (fun hge => ?_)
  · have hi' : i < l.length := by omega
    have hr := hG.row hi'
    have ok := ho.ok i hi'
    have hlen := pres_len (l.take i) p
    have htl : (l.take i).length ≤ 6 := by simp; omega
    (repeat(first|refine yw ?_|((first|apply yd|apply ye);simp (disch:=first|exact zz|fail) only[go_sem,hG.len,hG.idx,hG.load,store_tr (ints_atom hr)];with_reducible rfl)))
    have hr1 := hr.ext ((Ext.refl G).app [AObj.cells true 0 [.string (bs (l.getD i tr0).nm),.int .i64 (l.getD i tr0).lag,us.getD i undef]])
    refine aops_call_to (sample_c (p := p) hr1 (by omega) ok.lag (by have := ok.len; omega)) ?_
    have hs := pres_snoc hi' p
    cases hh : (l.getD i tr0).has p with
    | true =>
      rw [hh,if_pos rfl] at hs
      rw [if_pos rfl]
      obtain ⟨K,hK⟩ : ∃ K,K = G ++ [AObj.cells true 0 [.string (bs (l.getD i tr0).nm),.int .i64 (l.getD i tr0).lag,us.getD i undef]] := ⟨_,rfl⟩
      have oK : OwnI H K (pres (l.take i) p) av := by rw [hK]; exact oG.app _
      have xK : Ext H K := by rw [hK]; exact xG.app _
      rw [← hK]
      have hpu := oK.push (by omega) ((l.getD i tr0).at p)
      have oP := oK.pushed xK ((l.getD i tr0).at p)
      have xP := oK.ext xK ((l.getD i tr0).at p)
      rw [← hs] at oP
      (refine yg ?_)
      refine cond_t rfl ?_
      (repeat(first|refine yw ?_|((first|apply yd|apply ye);simp (disch:=first|exact zz|fail) only[go_sem,hpu];with_reducible rfl)))
      exact ⟨by omega,_,by simp [forget],oP,xP⟩
    | false =>
      rw [hh,if_neg (by decide)] at hs
      rw [if_neg (by decide)]
      (refine yg ?_)
      refine cond_f rfl ?_
      (refine yg ?_)
      exact ⟨by omega,av,by simp [forget],by rw [hs]; exact oG.app _,xG.app _⟩
  obtain rfl : i = l.length := by omega
  rw [List.take_length] at oG
  have hl := oG.ints
  have hlen := pres_len l p
  have hbd := pres_bound ho p
  by_cases h0 : pres l p = []
  · have e0 : ((pres l p).length : Int) = 0 := by rw [h0]; rfl
    have em : medT l p = 0 := by unfold medT; rw [h0]; rfl
    (repeat(first|refine yw ?_|((first|apply yd|apply ye);simp (disch:=first|exact zz|fail) only[go_sem,hl.len,hl.idx,hl.load,dec_t e0];with_reducible rfl)))
    refine cond_t rfl ?_
    (refine yg ?_)
    exact fin_2 ⟨by rw [em,dec_f (show ¬ pres l p ≠ [] by simp [h0])]; rfl,xG⟩
  have hpos : 0 < (pres l p).length := List.length_pos_iff.2 h0
  (repeat(first|refine yw ?_|((first|apply yd|apply ye);simp (disch:=first|exact zz|fail) only[go_sem,hl.len,hl.idx,hl.load,dec_f (show ¬ ((pres l p).length : Int) = 0 by omega)];with_reducible rfl)))
  refine cond_f rfl ?_
  (refine yg ?_)
  refine aops_call ((sort_c oG xG hpos (by omega)).mono fun u K ⟨oK,xK⟩ => ?_)
  have hs := oK.ints
  have hsl := sortI_len (pres l p)
  have d1 : (((pres l p).length : Int) - 1).tdiv 2 = ((((pres l p).length - 1) / 2 : Nat) : Int) := by rw [Int.tdiv_eq_ediv_of_nonneg (by omega)]; omega
  have d2 : ((pres l p).length : Int).tdiv 2 = (((pres l p).length / 2 : Nat) : Int) := by rw [Int.tdiv_eq_ediv_of_nonneg (by omega)]; omega
  have hsl2 : ((sortI (pres l p)).length : Int) = ((pres l p).length : Int) := by rw [hsl]
  have b1 := sortI_bound (b := 32767) (by decide) hbd (((pres l p).length - 1) / 2)
  have b2 := sortI_bound (b := 32767) (by decide) hbd ((pres l p).length / 2)
  (repeat(first|refine yw ?_|((first|apply yd|apply ye);simp (disch:=first|exact zz|fail) only[go_sem,hs.len,hs.idx,hs.load,hsl2,d1,d2,shr_1];with_reducible rfl)))
  exact fin_2 ⟨by rw [dec_t h0]; rfl,xK⟩
set_option maxHeartbeats 2000000 in
theorem deviation_c {l : List Tr} {us : List Value} {v dv : Value} {len c : Int} {P i k : Nat} (hd : isAtom dv = true) (hT : Trs H l us v) (ho : TrsOk l) (hi : i < l.length) (hP : k * P + P ≤ 200) :
    ACall Go.Proofs.Tryz.prog 53 [.agg ⟨[v,.int .i64 len,.int .i64 (P : Int),.int .i64 c,dv]⟩,.agg ⟨[.string (bs (l.getD i tr0).nm),.int .i64 (l.getD i tr0).lag,us.getD i undef]⟩,.int .i64 ((k * P : Nat) : Int)] H fun w H' => w = .int .i64 (devE l P k (l.getD i tr0)) ∧ H' = H := by
  refine ACall.drop (.int _ _) ?_
  have ok := ho.ok i hi
  obtain ⟨ok1,ok2⟩ := ok.lag
  have ok3 := ok.len
  have hbx : ∀ J : AHeap,boxR (.agg ⟨[v,.int .i64 len,.int .i64 (P : Int),.int .i64 c,dv]⟩) J = some (.pointer (some ⟨J.length,0,none⟩),J ++ [.cells true 0 [v,.int .i64 len,.int .i64 (P : Int),.int .i64 c,dv]]) := fun J => box_agg (by simp [hT.atom,hd,isAtom_int])
  obtain ⟨m,hm⟩ : ∃ m,m = k * P := ⟨_,rfl⟩
  rw [← hm] at hP ⊢
  have hr := hT.row hi
  (refine a53 ?_; simp only [n53,List.replicate,List.length_cons,List.length_nil,List.cons_append,List.nil_append]; first | refine Go.Lq.q1 ?_ | refine Go.Lq.q2 ?_ | refine Go.Lq.q6 ?_ | refine Go.Lq.q7 ?_ | refine Go.Lq.qh rfl ?_ | skip)
  (repeat(first|refine yw ?_|((first|apply yd|apply ye);simp (disch:=first|exact zz|fail) only[go_sem,hbx,box_tr (ints_atom hr)];with_reducible rfl)))
  (simp only [List.length_append,List.length_cons,List.length_nil,Nat.zero_add,Nat.add_assoc,Nat.reduceAdd])
  obtain ⟨G,hG⟩ : ∃ G,G = H ++ [AObj.cells true 0 [v,.int .i64 len,.int .i64 (P : Int),.int .i64 c,dv]] ++ [AObj.cells true 0 [.string (bs (l.getD i tr0).nm),.int .i64 (l.getD i tr0).lag,us.getD i undef]] := ⟨_,rfl⟩
  have g0 : G[H.length]? = some (.cells true 0 [v,.int .i64 len,.int .i64 (P : Int),.int .i64 c,dv]) := by rw [hG]; exact at_app at_new
  have g1 : G[H.length + 1]? = some (.cells true 0 [.string (bs (l.getD i tr0).nm),.int .i64 (l.getD i tr0).lag,us.getD i undef]) := by rw [hG]; simp
  have xG : Ext H G := by rw [hG]; exact ((Ext.refl H).app _).app _
  rw [← hG]
  clear hG
  have hG := hT.ext xG
  have hrG := hG.row hi
  (refine yg ?_)
  refine awp_loop_n [false,false,true,true,true,false,false,true,true,false,false,false,false,false,false,false,false,false,false,false,false,false,false,false,false,false,false,false,false,false,false,false,false,false,false,false,false,false,false,false,false,false,false,false,false,false] P (fun j e H' => H' = G ∧ e = [junk,junk,.int .i64 (m : Int),.pointer (some ⟨H.length,0,none⟩),.pointer (some ⟨H.length + 1,0,none⟩),junk,junk,.int .i64 (sumN (devF l P k (l.getD i tr0)) j),.int .i64 ((m + j : Nat) : Int),junk,junk,junk,junk,junk,junk,junk,junk,junk,junk,junk,junk,junk,junk,junk,junk,junk,junk,junk,junk,junk,junk,junk,junk,junk,junk,junk,junk,junk,junk,junk,junk,junk,junk,junk,junk,junk] ∧ ∀ q,q < j → (l.getD i tr0).has ((m + q : Nat) : Int) = true) ?_ ?_
  · exact ⟨rfl,by simp [forget,sumN],fun q hq => by omega⟩
  rintro j e H' hj ⟨rfl,rfl,hb⟩
  (repeat(first|refine yw ?_|((first|apply yd|apply ye);simp (disch:=first|exact zz|fail) only[go_sem,load_at g0];with_reducible rfl)))
  refine cond_p rfl (fun hlt => ?_) (fun hge => ?_)
  rotate_left 1
  · obtain rfl : j = P := by omega
    (refine yg ?_)
    refine fin_1 ⟨?_,xG⟩
    unfold devE
    rw [if_pos (cov_all fun q hq => by rw [← hm]; exact hb q hq)]
    rfl
  have hj' : j < P := by omega
  (repeat(first|refine yw ?_|((first|apply yd|apply ye);simp (disch:=first|exact zz|fail) only[go_sem,loadN_at g1];with_reducible rfl)))
  refine aops_call_to (sample_c (t := l.getD i tr0) (p := ((m + j : Nat) : Int)) hrG (by omega) ok.lag (by omega)) ?_
  cases hh : (l.getD i tr0).has ((m + j : Nat) : Int) with
  | false =>
    rw [if_neg (by decide)]
    (refine yg ?_)
    refine cond_t rfl ?_
    (refine yg ?_)
    refine fin_1 ⟨?_,xG⟩
    unfold devE
    rw [cov_not hj' (by rw [← hm]; exact hh),if_neg (by decide)]
    rfl
  | true =>
    rw [if_pos rfl]
    have hsb := sumN_bound (f := devF l P k (l.getD i tr0)) (n := j) fun q _ => devF_bound ho ok P k q
    have hdb := devF_bound ho ok P k j
    have h1 := at_bound ok ((m + j : Nat) : Int)
    have h2 := medT_bound ho ((m + j : Nat) : Int)
    have ed : devF l P k (l.getD i tr0) j = max ((l.getD i tr0).at ((m + j : Nat) : Int) - medT l ((m + j : Nat) : Int)) (-((l.getD i tr0).at ((m + j : Nat) : Int) - medT l ((m + j : Nat) : Int))) := by rw [hm]; rfl
    (refine yg ?_)
    refine cond_f rfl ?_
    (repeat(first|refine yw ?_|((first|apply yd|apply ye);simp (disch:=first|exact zz|fail) only[go_sem,load_at g0];with_reducible rfl)))
    refine aops_call_to (median_c (p := ((m + j : Nat) : Int)) hG ho (by omega)) ?_
    (refine yg ?_)
    refine aops_call_to (jsize_c _ (by omega)) ?_
    rw [← ed]
    (refine yg ?_)
    refine ⟨by omega,rfl,by simp [forget,sumN]; omega,fun q hq => ?_⟩
    by_cases e : q = j
    · subst e; exact hh
    · exact hb q (by omega)
end
end Go.Lq
