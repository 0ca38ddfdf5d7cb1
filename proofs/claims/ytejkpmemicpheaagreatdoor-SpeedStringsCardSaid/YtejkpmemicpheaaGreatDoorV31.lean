/- Towards SpeedStrings of seat YtejkpmemicpheaaGreatDoor: it returns true for every input. Made out of the proof's own texts, merged. -/
import Derived.Test.YtejkpmemicpheaaGreatDoorProg
import Derived.KernelRfl
import Derived.Test.YtejkpmemicpheaaGreatDoorB3
set_option linter.unusedSimpArgs false
set_option linter.unnecessarySimpa false
set_option linter.unusedVariables false
set_option linter.unusedSectionVars false
set_option maxRecDepth 100000
namespace Go.Lq
open Go
theorem mo : Go.Proofs.Tryz.prog.follows .mixedOrders = true := by kernel_rfl

def R3 : RFunc :=
  ⟨(.seq (.ops [⟨(some 2), (.box (.tmp 0)), none⟩, ⟨(some 4), (.mov (.const (.bool false))), none⟩]) (.seq (.seq (.ops [⟨(some 12), (.call (.func 5) []), none⟩, ⟨(some 13), (.not (.tmp 12)), none⟩]) (.cond (.tmp 13) (.seq (.ops [⟨(some 4), (.mov (.const (.bool false))), none⟩]) .ret) .skip)) (.seq (.seq (.ops [⟨(some 14), (.loadN 1 (.tmp 2)), none⟩, ⟨(some 15), (.call (.func 6) [(.tmp 14)]), none⟩, ⟨(some 16), (.not (.tmp 15)), none⟩, ⟨(some 17), (.mov (.tmp 16)), none⟩, ⟨(some 18), (.mov (.tmp 1)), (some (17, false))⟩, ⟨(some 19), (.lenS (.tmp 18)), (some (17, false))⟩, ⟨(some 20), (.cmp .gtr (.tmp 19) (.const (.int .i64 600))), (some (17, false))⟩, ⟨(some 21), (.pick (.tmp 17) (.const (.bool true)) (.tmp 20)), none⟩]) (.cond (.tmp 21) (.seq (.ops [⟨(some 4), (.mov (.const (.bool true))), none⟩]) .ret) .skip)) (.seq (.ops [⟨(some 22), (.loadN 1 (.tmp 2)), none⟩, ⟨(some 23), (.call (.func 8) [(.tmp 22)]), none⟩, ⟨(some 24), (.call (.func 7) [(.tmp 23)]), none⟩, ⟨(some 5), (.mov (.tmp 24)), none⟩]) (.seq (.ops [⟨(some 26), (.mov (.tmp 1)), none⟩, ⟨(some 27), (.call (.func 9) [(.tmp 26)]), none⟩, ⟨(some 25), (.mov (.tmp 27)), none⟩, ⟨(some 28), (.extract (.tmp 25) 0), none⟩, ⟨(some 29), (.extract (.tmp 25) 1), none⟩, ⟨(some 6), (.new [(.slice none 0 0)]), none⟩, ⟨none, (.store 1 (.tmp 6) (.tmp 28)), none⟩, ⟨(some 7), (.mov (.tmp 29)), none⟩]) (.seq (.ops [⟨(some 31), (.mov (.tmp 1)), none⟩, ⟨(some 32), (.call (.func 10) [(.tmp 31)]), none⟩, ⟨(some 30), (.mov (.tmp 32)), none⟩, ⟨(some 33), (.extract (.tmp 30) 0), none⟩, ⟨(some 34), (.extract (.tmp 30) 1), none⟩, ⟨(some 8), (.new [(.slice none 0 0)]), none⟩, ⟨none, (.store 1 (.tmp 8) (.tmp 33)), none⟩, ⟨(some 9), (.mov (.tmp 34)), none⟩]) (.seq (.seq (.ops [⟨(some 35), (.mov (.tmp 5)), none⟩, ⟨(some 36), (.loadN 1 (.tmp 2)), none⟩, ⟨(some 37), (.call (.func 11) [(.tmp 36)]), none⟩, ⟨(some 38), (.strOp .neq (.tmp 35) (.tmp 37)), none⟩, ⟨(some 39), (.mov (.tmp 38)), none⟩, ⟨(some 40), (.mov (.tmp 7)), (some (39, false))⟩, ⟨(some 41), (.mov (.tmp 9)), (some (39, false))⟩, ⟨(some 42), (.cmp .neq (.tmp 40) (.tmp 41)), (some (39, false))⟩, ⟨(some 43), (.pick (.tmp 39) (.const (.bool true)) (.tmp 42)), none⟩, ⟨(some 44), (.mov (.tmp 43)), none⟩, ⟨(some 45), (.loadN 1 (.tmp 6)), (some (44, false))⟩, ⟨(some 46), (.loadN 1 (.tmp 8)), (some (44, false))⟩, ⟨(some 47), (.call (.func 12) [(.tmp 45), (.tmp 46)]), (some (44, false))⟩, ⟨(some 48), (.not (.tmp 47)), (some (44, false))⟩, ⟨(some 49), (.pick (.tmp 44) (.const (.bool true)) (.tmp 48)), none⟩]) (.cond (.tmp 49) (.seq (.ops [⟨(some 4), (.mov (.const (.bool false))), none⟩]) .ret) .skip)) (.seq (.seq (.ops [⟨(some 50), (.loadN 1 (.tmp 2)), none⟩, ⟨(some 51), (.call (.func 13) [(.tmp 50)]), none⟩, ⟨(some 52), (.cmp .neq (.tmp 51) (.const (.int .i64 0))), none⟩]) (.cond (.tmp 52) (.seq (.ops [⟨(some 4), (.mov (.const (.bool true))), none⟩]) .ret) .skip)) (.seq (.ops [⟨(some 54), (.mov (.tmp 5)), none⟩, ⟨(some 55), (.call (.func 9) [(.tmp 54)]), none⟩, ⟨(some 53), (.mov (.tmp 55)), none⟩, ⟨(some 56), (.extract (.tmp 53) 0), none⟩, ⟨(some 57), (.extract (.tmp 53) 1), none⟩, ⟨(some 10), (.new [(.slice none 0 0)]), none⟩, ⟨none, (.store 1 (.tmp 10) (.tmp 56)), none⟩, ⟨(some 11), (.mov (.tmp 57)), none⟩]) (.seq (.ops [⟨(some 58), (.mov (.tmp 11)), none⟩, ⟨(some 59), (.cmp .eql (.tmp 58) (.const (.int .i64 0))), none⟩, ⟨(some 60), (.mov (.tmp 59)), none⟩, ⟨(some 61), (.loadN 1 (.tmp 10)), (some (60, true))⟩, ⟨(some 62), (.loadN 1 (.tmp 2)), (some (60, true))⟩, ⟨(some 63), (.call (.func 12) [(.tmp 61), (.tmp 62)]), (some (60, true))⟩, ⟨(some 64), (.pick (.tmp 60) (.tmp 63) (.const (.bool false))), none⟩, ⟨(some 4), (.mov (.tmp 64)), none⟩]) .ret)))))))))), 65, [(.tmp 4)]⟩
theorem c3 : compileFn Go.Proofs.Tryz.prog Go.Proofs.Tryz.f3 = some R3 := by kernel_rfl
theorem n3 : R3.ntmps = 65 := rfl
theorem a3 {args : List Value} {H : AHeap} {Q : Value → AHeap → Prop} (h : AWP Go.Proofs.Tryz.prog none R3.code (Fin R3 Q) (args ++ List.replicate (R3.ntmps - args.length) undef) H) : ACall Go.Proofs.Tryz.prog 3 args H Q := acall_intro mo Go.Proofs.Tryz.func3 c3 h

def R4 : RFunc :=
  ⟨(.seq (.ops [⟨(some 2), (.box (.tmp 0)), none⟩, ⟨(some 4), (.mov (.const (.bool false))), none⟩]) (.seq (.seq (.ops [⟨(some 12), (.call (.func 5) []), none⟩, ⟨(some 13), (.not (.tmp 12)), none⟩]) (.cond (.tmp 13) (.seq (.ops [⟨(some 4), (.mov (.const (.bool false))), none⟩]) .ret) .skip)) (.seq (.seq (.ops [⟨(some 14), (.mov (.tmp 1)), none⟩, ⟨(some 15), (.lenS (.tmp 14)), none⟩, ⟨(some 16), (.cmp .gtr (.tmp 15) (.const (.int .i64 80))), none⟩]) (.cond (.tmp 16) (.seq (.ops [⟨(some 4), (.mov (.const (.bool true))), none⟩]) .ret) .skip)) (.seq (.ops [⟨(some 17), (.loadN 3 (.tmp 2)), none⟩, ⟨(some 18), (.call (.func 14) [(.tmp 17)]), none⟩, ⟨(some 5), (.mov (.tmp 18)), none⟩]) (.seq (.ops [⟨(some 20), (.mov (.tmp 1)), none⟩, ⟨(some 21), (.call (.func 15) [(.tmp 20)]), none⟩, ⟨(some 19), (.mov (.tmp 21)), none⟩, ⟨(some 22), (.extract (.tmp 19) 0), none⟩, ⟨(some 23), (.extract (.tmp 19) 1), none⟩, ⟨(some 6), (.new [(.int .i64 0), (.int .i64 0), (.int .i64 0)]), none⟩, ⟨none, (.store 3 (.tmp 6) (.tmp 22)), none⟩, ⟨(some 7), (.mov (.tmp 23)), none⟩]) (.seq (.ops [⟨(some 25), (.mov (.tmp 1)), none⟩, ⟨(some 26), (.call (.func 16) [(.tmp 25)]), none⟩, ⟨(some 24), (.mov (.tmp 26)), none⟩, ⟨(some 27), (.extract (.tmp 24) 0), none⟩, ⟨(some 28), (.extract (.tmp 24) 1), none⟩, ⟨(some 8), (.new [(.int .i64 0), (.int .i64 0), (.int .i64 0)]), none⟩, ⟨none, (.store 3 (.tmp 8) (.tmp 27)), none⟩, ⟨(some 9), (.mov (.tmp 28)), none⟩]) (.seq (.seq (.ops [⟨(some 29), (.mov (.tmp 5)), none⟩, ⟨(some 30), (.loadN 3 (.tmp 2)), none⟩, ⟨(some 31), (.call (.func 17) [(.tmp 30)]), none⟩, ⟨(some 32), (.strOp .neq (.tmp 29) (.tmp 31)), none⟩, ⟨(some 33), (.mov (.tmp 32)), none⟩, ⟨(some 34), (.mov (.tmp 7)), (some (33, false))⟩, ⟨(some 35), (.mov (.tmp 9)), (some (33, false))⟩, ⟨(some 36), (.cmp .neq (.tmp 34) (.tmp 35)), (some (33, false))⟩, ⟨(some 37), (.pick (.tmp 33) (.const (.bool true)) (.tmp 36)), none⟩, ⟨(some 38), (.mov (.tmp 37)), none⟩, ⟨(some 39), (.loadN 3 (.tmp 6)), (some (38, false))⟩, ⟨(some 40), (.loadN 3 (.tmp 8)), (some (38, false))⟩, ⟨(some 41), (.eqAgg true [(0, false), (1, false), (2, false)] (.tmp 39) (.tmp 40)), (some (38, false))⟩, ⟨(some 42), (.pick (.tmp 38) (.const (.bool true)) (.tmp 41)), none⟩]) (.cond (.tmp 42) (.seq (.ops [⟨(some 4), (.mov (.const (.bool false))), none⟩]) .ret) .skip)) (.seq (.seq (.ops [⟨(some 43), (.loadN 3 (.tmp 2)), none⟩, ⟨(some 44), (.call (.func 18) [(.tmp 43)]), none⟩, ⟨(some 45), (.cmp .neq (.tmp 44) (.const (.int .i64 0))), none⟩]) (.cond (.tmp 45) (.seq (.ops [⟨(some 4), (.mov (.const (.bool true))), none⟩]) .ret) .skip)) (.seq (.ops [⟨(some 47), (.mov (.tmp 5)), none⟩, ⟨(some 48), (.call (.func 15) [(.tmp 47)]), none⟩, ⟨(some 46), (.mov (.tmp 48)), none⟩, ⟨(some 49), (.extract (.tmp 46) 0), none⟩, ⟨(some 50), (.extract (.tmp 46) 1), none⟩, ⟨(some 10), (.new [(.int .i64 0), (.int .i64 0), (.int .i64 0)]), none⟩, ⟨none, (.store 3 (.tmp 10) (.tmp 49)), none⟩, ⟨(some 11), (.mov (.tmp 50)), none⟩]) (.seq (.ops [⟨(some 51), (.mov (.tmp 11)), none⟩, ⟨(some 52), (.cmp .eql (.tmp 51) (.const (.int .i64 0))), none⟩, ⟨(some 53), (.mov (.tmp 52)), none⟩, ⟨(some 54), (.loadN 3 (.tmp 10)), (some (53, true))⟩, ⟨(some 55), (.loadN 3 (.tmp 2)), (some (53, true))⟩, ⟨(some 56), (.eqAgg false [(0, false), (1, false), (2, false)] (.tmp 54) (.tmp 55)), (some (53, true))⟩, ⟨(some 57), (.pick (.tmp 53) (.tmp 56) (.const (.bool false))), none⟩, ⟨(some 4), (.mov (.tmp 57)), none⟩]) .ret)))))))))), 58, [(.tmp 4)]⟩
theorem c4 : compileFn Go.Proofs.Tryz.prog Go.Proofs.Tryz.f4 = some R4 := by kernel_rfl
theorem n4 : R4.ntmps = 58 := rfl
theorem a4 {args : List Value} {H : AHeap} {Q : Value → AHeap → Prop} (h : AWP Go.Proofs.Tryz.prog none R4.code (Fin R4 Q) (args ++ List.replicate (R4.ntmps - args.length) undef) H) : ACall Go.Proofs.Tryz.prog 4 args H Q := acall_intro mo Go.Proofs.Tryz.func4 c4 h

def R5 : RFunc :=
  ⟨(.seq (.ops [⟨(some 0), (.mov (.const (.bool false))), none⟩]) (.seq (.ops [⟨(some 11), (.call (.func 20) []), none⟩, ⟨(some 12), (.call (.func 19) [(.tmp 11), (.const (.int .i64 105))]), none⟩, ⟨(some 10), (.mov (.tmp 12)), none⟩, ⟨(some 13), (.extract (.tmp 10) 0), none⟩, ⟨(some 14), (.extract (.tmp 10) 1), none⟩, ⟨(some 1), (.new [(.int .i64 0), (.int .i64 0)]), none⟩, ⟨none, (.store 2 (.tmp 1) (.tmp 13)), none⟩, ⟨(some 2), (.mov (.tmp 14)), none⟩]) (.seq (.ops [⟨(some 16), (.call (.func 22) []), none⟩, ⟨(some 17), (.call (.func 21) [(.tmp 16), (.const (.int .i64 10))]), none⟩, ⟨(some 15), (.mov (.tmp 17)), none⟩, ⟨(some 18), (.extract (.tmp 15) 0), none⟩, ⟨(some 19), (.extract (.tmp 15) 1), none⟩, ⟨(some 3), (.new [(.int .i64 0), (.int .i64 0)]), none⟩, ⟨none, (.store 2 (.tmp 3) (.tmp 18)), none⟩, ⟨(some 4), (.mov (.tmp 19)), none⟩]) (.seq (.ops [⟨(some 21), (.call (.func 24) []), none⟩, ⟨(some 22), (.call (.func 23) [(.tmp 21)]), none⟩, ⟨(some 20), (.mov (.tmp 22)), none⟩, ⟨(some 23), (.extract (.tmp 20) 0), none⟩, ⟨(some 24), (.extract (.tmp 20) 1), none⟩, ⟨(some 5), (.new [(.slice none 0 0)]), none⟩, ⟨none, (.store 1 (.tmp 5) (.tmp 23)), none⟩, ⟨(some 6), (.mov (.tmp 24)), none⟩]) (.seq (.ops [⟨(some 26), (.call (.func 20) []), none⟩, ⟨(some 27), (.call (.func 25) [(.tmp 26)]), none⟩, ⟨(some 25), (.mov (.tmp 27)), none⟩, ⟨(some 28), (.extract (.tmp 25) 0), none⟩, ⟨(some 29), (.extract (.tmp 25) 1), none⟩, ⟨(some 30), (.extract (.tmp 25) 2), none⟩, ⟨(some 7), (.new [(.int .i64 0), (.int .i64 0)]), none⟩, ⟨none, (.store 2 (.tmp 7) (.tmp 28)), none⟩, ⟨(some 8), (.mov (.tmp 29)), none⟩, ⟨(some 9), (.mov (.tmp 30)), none⟩]) (.seq (.draw [(⟨(some 31), (.mov (.tmp 2)), none⟩, false), (⟨(some 32), (.cmp .eql (.tmp 31) (.const (.int .i64 0))), none⟩, false), (⟨(some 33), (.mov (.tmp 32)), none⟩, false), (⟨(some 34), (.loadN 2 (.tmp 1)), (some (33, true))⟩, false), (⟨(some 35), (.build [(.int .i64 0), (.int .i64 0)] [(0, (1, (.const (.int .i64 666)))), (1, (1, (.const (.int .i64 667))))]), (some (33, true))⟩, false), (⟨(some 36), (.eqAgg false [(0, false), (1, false)] (.tmp 34) (.tmp 35)), (some (33, true))⟩, false), (⟨(some 37), (.pick (.tmp 33) (.tmp 36) (.const (.bool false))), none⟩, false), (⟨(some 38), (.mov (.tmp 37)), none⟩, false), (⟨(some 39), (.mov (.tmp 4)), (some (38, true))⟩, false), (⟨(some 40), (.cmp .eql (.tmp 39) (.const (.int .i64 0))), (some (38, true))⟩, false), (⟨(some 41), (.pick (.tmp 38) (.tmp 40) (.const (.bool false))), none⟩, false), (⟨(some 42), (.mov (.tmp 41)), none⟩, false), (⟨(some 43), (.loadN 2 (.tmp 3)), (some (42, true))⟩, false), (⟨(some 44), (.build [(.int .i64 0), (.int .i64 0)] [(0, (1, (.const (.int .i64 90)))), (1, (1, (.const (.int .i64 120))))]), (some (42, true))⟩, false), (⟨(some 45), (.eqAgg false [(0, false), (1, false)] (.tmp 43) (.tmp 44)), (some (42, true))⟩, false), (⟨(some 46), (.pick (.tmp 42) (.tmp 45) (.const (.bool false))), none⟩, false), (⟨(some 47), (.mov (.tmp 46)), none⟩, false), (⟨(some 48), (.mov (.tmp 6)), (some (47, true))⟩, false), (⟨(some 49), (.cmp .eql (.tmp 48) (.const (.int .i64 0))), (some (47, true))⟩, false), (⟨(some 50), (.pick (.tmp 47) (.tmp 49) (.const (.bool false))), none⟩, false), (⟨(some 51), (.mov (.tmp 50)), none⟩, false), (⟨(some 52), (.fieldAddr 0 (.tmp 5)), (some (51, true))⟩, false), (⟨(some 53), (.load (.tmp 52)), (some (51, true))⟩, false), (⟨(some 54), (.len (.tmp 53)), (some (51, true))⟩, false), (⟨(some 55), (.cmp .eql (.tmp 54) (.const (.int .i64 3))), (some (51, true))⟩, false), (⟨(some 56), (.pick (.tmp 51) (.tmp 55) (.const (.bool false))), none⟩, false), (⟨(some 57), (.mov (.tmp 56)), none⟩, false), (⟨(some 58), (.mov (.tmp 9)), (some (57, true))⟩, false), (⟨(some 59), (.cmp .eql (.tmp 58) (.const (.int .i64 0))), (some (57, true))⟩, false), (⟨(some 60), (.pick (.tmp 57) (.tmp 59) (.const (.bool false))), none⟩, false), (⟨(some 61), (.mov (.tmp 60)), none⟩, false), (⟨(some 62), (.loadN 2 (.tmp 7)), (some (61, true))⟩, false), (⟨(some 63), (.call (.func 26) [(.const (.int .i64 10))]), (some (61, true))⟩, false), (⟨(some 64), (.eqAgg false [(0, false), (1, false)] (.tmp 62) (.tmp 63)), (some (61, true))⟩, false), (⟨(some 65), (.pick (.tmp 61) (.tmp 64) (.const (.bool false))), none⟩, false), (⟨(some 66), (.mov (.tmp 65)), none⟩, false), (⟨(some 67), (.mov (.tmp 8)), (some (66, true))⟩, false), (⟨(some 68), (.cmp .eql (.tmp 67) (.const (.int .i64 1))), (some (66, true))⟩, false), (⟨(some 69), (.pick (.tmp 66) (.tmp 68) (.const (.bool false))), none⟩, false), (⟨(some 0), (.mov (.tmp 69)), none⟩, false)]) .ret)))))), 70, [(.tmp 0)]⟩
theorem c5 : compileFn Go.Proofs.Tryz.prog Go.Proofs.Tryz.f5 = some R5 := by kernel_rfl
theorem n5 : R5.ntmps = 70 := rfl
theorem a5 {args : List Value} {H : AHeap} {Q : Value → AHeap → Prop} (h : AWP Go.Proofs.Tryz.prog none R5.code (Fin R5 Q) (args ++ List.replicate (R5.ntmps - args.length) undef) H) : ACall Go.Proofs.Tryz.prog 5 args H Q := acall_intro mo Go.Proofs.Tryz.func5 c5 h

def R6 : RFunc :=
  ⟨(.seq (.ops [⟨(some 1), (.box (.tmp 0)), none⟩, ⟨(some 2), (.mov (.const (.bool false))), none⟩]) (.seq (.ops [⟨(some 3), (.fieldAddr 0 (.tmp 1)), none⟩, ⟨(some 4), (.load (.tmp 3)), none⟩, ⟨(some 5), (.len (.tmp 4)), none⟩, ⟨(some 6), (.cmp .leq (.tmp 5) (.const (.int .i64 22))), none⟩, ⟨(some 2), (.mov (.tmp 6)), none⟩]) .ret)), 7, [(.tmp 2)]⟩
theorem c6 : compileFn Go.Proofs.Tryz.prog Go.Proofs.Tryz.f6 = some R6 := by kernel_rfl
theorem n6 : R6.ntmps = 7 := rfl
theorem a6 {args : List Value} {H : AHeap} {Q : Value → AHeap → Prop} (h : AWP Go.Proofs.Tryz.prog none R6.code (Fin R6 Q) (args ++ List.replicate (R6.ntmps - args.length) undef) H) : ACall Go.Proofs.Tryz.prog 6 args H Q := acall_intro mo Go.Proofs.Tryz.func6 c6 h

def R7 : RFunc :=
  ⟨(.seq (.ops [⟨(some 1), (.box (.tmp 0)), none⟩, ⟨(some 2), (.mov (.const (.string ⟨#[]⟩))), none⟩]) (.seq (.ops [⟨(some 3), (.mov (.const (.slice none 0 0))), none⟩]) (.seq (.seq (.ops [⟨(some 6), (.fieldAddr 0 (.tmp 1)), none⟩, ⟨(some 7), (.load (.tmp 6)), none⟩, ⟨(some 8), (.len (.tmp 7)), none⟩, ⟨(some 9), (.mov (.const (.int .i64 0))), none⟩]) (.block 0 (.loop (.seq (.ops [⟨(some 10), (.cmp .lss (.tmp 9) (.tmp 8)), none⟩]) (.seq (.cond (.tmp 10) .skip (.exit 0)) (.seq (.block 1 (.seq (.ops [⟨(some 11), (.idxAddr 2 (.tmp 7) (.tmp 9)), none⟩, ⟨(some 12), (.loadN 2 (.tmp 11)), none⟩, ⟨(some 5), (.new [(.int .i64 0), (.int .i64 0)]), none⟩, ⟨none, (.store 2 (.tmp 5) (.tmp 12)), none⟩]) (.draw [(⟨(some 13), (.mov (.tmp 3)), none⟩, false), (⟨(some 14), (.fieldAddr 0 (.tmp 5)), none⟩, false), (⟨(some 15), (.load (.tmp 14)), none⟩, false), (⟨(some 16), (.call (.func 27) [(.tmp 15)]), none⟩, false), (⟨(some 17), (.strOp .add (.tmp 16) (.const (.string ⟨#[64]⟩))), none⟩, false), (⟨(some 18), (.fieldAddr 1 (.tmp 5)), none⟩, false), (⟨(some 19), (.load (.tmp 18)), none⟩, false), (⟨(some 20), (.call (.func 27) [(.tmp 19)]), none⟩, false), (⟨(some 21), (.strOp .add (.tmp 17) (.tmp 20)), none⟩, false), (⟨(some 22), (.buildSlice 1 1 [(.string ⟨#[]⟩)] [(0, (1, (.tmp 21)))]), none⟩, false), (⟨(some 23), (.append 1 16 (.tmp 13) (.tmp 22)), none⟩, false), (⟨(some 3), (.mov (.tmp 23)), none⟩, false)]))) (.ops [⟨(some 24), (.arith .add (.tmp 9) (.const (.int .i64 1))), none⟩, ⟨(some 9), (.mov (.tmp 24)), none⟩]))))))) (.seq (.ops [⟨(some 25), (.mov (.tmp 3)), none⟩, ⟨(some 26), (.call (.func 28) [(.tmp 25), (.const (.string ⟨#[32]⟩))]), none⟩, ⟨(some 2), (.mov (.tmp 26)), none⟩]) .ret)))), 27, [(.tmp 2)]⟩
theorem c7 : compileFn Go.Proofs.Tryz.prog Go.Proofs.Tryz.f7 = some R7 := by kernel_rfl
theorem n7 : R7.ntmps = 27 := rfl
theorem a7 {args : List Value} {H : AHeap} {Q : Value → AHeap → Prop} (h : AWP Go.Proofs.Tryz.prog none R7.code (Fin R7 Q) (args ++ List.replicate (R7.ntmps - args.length) undef) H) : ACall Go.Proofs.Tryz.prog 7 args H Q := acall_intro mo Go.Proofs.Tryz.func7 c7 h

def R8 : RFunc :=
  ⟨(.seq (.ops [⟨(some 1), (.box (.tmp 0)), none⟩, ⟨(some 2), (.new [(.slice none 0 0)]), none⟩]) (.seq (.ops [⟨(some 3), (.buildSlice 2 0 [] []), none⟩, ⟨(some 4), (.fieldAddr 0 (.tmp 1)), none⟩, ⟨(some 5), (.load (.tmp 4)), none⟩, ⟨(some 6), (.append 2 16 (.tmp 3) (.tmp 5)), none⟩, ⟨(some 7), (.build [(.slice none 0 0)] [(0, (1, (.tmp 6)))]), none⟩, ⟨none, (.store 1 (.tmp 2) (.tmp 7)), none⟩]) .ret)), 8, [(.loadN 1 2)]⟩
theorem c8 : compileFn Go.Proofs.Tryz.prog Go.Proofs.Tryz.f8 = some R8 := by kernel_rfl
theorem n8 : R8.ntmps = 8 := rfl
theorem a8 {args : List Value} {H : AHeap} {Q : Value → AHeap → Prop} (h : AWP Go.Proofs.Tryz.prog none R8.code (Fin R8 Q) (args ++ List.replicate (R8.ntmps - args.length) undef) H) : ACall Go.Proofs.Tryz.prog 8 args H Q := acall_intro mo Go.Proofs.Tryz.func8 c8 h

def R9 : RFunc :=
  ⟨(.seq (.ops [⟨(some 2), (.new [(.slice none 0 0)]), none⟩, ⟨(some 3), (.new [(.int .i64 0)]), none⟩]) (.seq (.seq (.ops [⟨(some 14), (.mov (.tmp 0)), none⟩, ⟨(some 15), (.lenS (.tmp 14)), none⟩, ⟨(some 16), (.cmp .gtr (.tmp 15) (.const (.int .i64 60000))), none⟩]) (.cond (.tmp 16) (.seq (.ops [⟨(some 17), (.build [(.slice none 0 0)] []), none⟩, ⟨none, (.store 1 (.tmp 2) (.tmp 17)), none⟩, ⟨none, (.store 1 (.tmp 3) (.const (.int .i64 8))), none⟩]) .ret) .skip)) (.seq (.ops [⟨(some 4), (.new [(.slice none 0 0)]), none⟩]) (.seq (.seq (.ops [⟨(some 18), (.mov (.tmp 0)), none⟩, ⟨(some 19), (.call (.func 29) [(.tmp 18), (.const (.string ⟨#[32]⟩))]), none⟩]) (.block 0 (.rangeFunc (.tmp 19) [20] (.ops [⟨(some 5), (.mov (.tmp 20)), none⟩]) (.block 1 (.seq (.ops [⟨(some 22), (.mov (.tmp 5)), none⟩, ⟨(some 23), (.call (.func 30) [(.tmp 22), (.const (.string ⟨#[64]⟩))]), none⟩, ⟨(some 21), (.mov (.tmp 23)), none⟩, ⟨(some 24), (.extract (.tmp 21) 0), none⟩, ⟨(some 25), (.extract (.tmp 21) 1), none⟩, ⟨(some 26), (.extract (.tmp 21) 2), none⟩, ⟨(some 6), (.mov (.tmp 24)), none⟩, ⟨(some 7), (.mov (.tmp 25)), none⟩, ⟨(some 8), (.mov (.tmp 26)), none⟩]) (.seq (.ops [⟨(some 28), (.mov (.tmp 6)), none⟩, ⟨(some 29), (.call (.func 31) [(.tmp 28), (.const (.int .i64 7))]), none⟩, ⟨(some 27), (.mov (.tmp 29)), none⟩, ⟨(some 30), (.extract (.tmp 27) 0), none⟩, ⟨(some 31), (.extract (.tmp 27) 1), none⟩, ⟨(some 9), (.mov (.tmp 30)), none⟩, ⟨(some 10), (.mov (.tmp 31)), none⟩]) (.seq (.ops [⟨(some 33), (.mov (.tmp 7)), none⟩, ⟨(some 34), (.call (.func 31) [(.tmp 33), (.const (.int .i64 13))]), none⟩, ⟨(some 32), (.mov (.tmp 34)), none⟩, ⟨(some 35), (.extract (.tmp 32) 0), none⟩, ⟨(some 36), (.extract (.tmp 32) 1), none⟩, ⟨(some 11), (.mov (.tmp 35)), none⟩, ⟨(some 12), (.mov (.tmp 36)), none⟩]) (.seq (.seq (.ops [⟨(some 37), (.mov (.tmp 10)), none⟩, ⟨(some 38), (.not (.tmp 37)), none⟩, ⟨(some 39), (.mov (.tmp 38)), none⟩, ⟨(some 40), (.mov (.tmp 12)), (some (39, false))⟩, ⟨(some 41), (.not (.tmp 40)), (some (39, false))⟩, ⟨(some 42), (.pick (.tmp 39) (.const (.bool true)) (.tmp 41)), none⟩]) (.cond (.tmp 42) (.seq (.ops [⟨(some 43), (.build [(.slice none 0 0)] []), none⟩, ⟨none, (.store 1 (.tmp 2) (.tmp 43)), none⟩, ⟨none, (.store 1 (.tmp 3) (.const (.int .i64 7))), none⟩]) .ret) .skip)) (.ops [⟨(some 44), (.fieldAddr 0 (.tmp 4)), none⟩, ⟨(some 45), (.load (.tmp 44)), none⟩, ⟨(some 46), (.mov (.tmp 9)), none⟩, ⟨(some 47), (.mov (.tmp 11)), none⟩, ⟨(some 48), (.build [(.int .i64 0), (.int .i64 0)] [(0, (1, (.tmp 46))), (1, (1, (.tmp 47)))]), none⟩, ⟨(some 49), (.buildSlice 2 1 [(.int .i64 0), (.int .i64 0)] [(0, (2, (.tmp 48)))]), none⟩, ⟨(some 50), (.append 2 16 (.tmp 45) (.tmp 49)), none⟩, ⟨(some 51), (.fieldAddr 0 (.tmp 4)), none⟩, ⟨none, (.store 1 (.tmp 51) (.tmp 50)), none⟩]))))))))) (.seq (.seq (.ops [⟨(some 52), (.loadN 1 (.tmp 4)), none⟩, ⟨(some 53), (.buildSlice 1 1 [(.slice none 0 0)] [(0, (1, (.tmp 52)))]), none⟩, ⟨(some 54), (.call (.func 32) [(.tmp 53)]), none⟩, ⟨(some 13), (.mov (.tmp 54)), none⟩]) (.seq (.ops [⟨(some 55), (.mov (.tmp 13)), none⟩, ⟨(some 56), (.cmp .neq (.tmp 55) (.const (.int .i64 0))), none⟩]) (.cond (.tmp 56) (.seq (.ops [⟨(some 57), (.build [(.slice none 0 0)] []), none⟩, ⟨(some 58), (.mov (.tmp 13)), none⟩, ⟨none, (.store 1 (.tmp 2) (.tmp 57)), none⟩, ⟨none, (.store 1 (.tmp 3) (.tmp 58)), none⟩]) .ret) .skip))) (.seq (.ops [⟨(some 59), (.loadN 1 (.tmp 4)), none⟩, ⟨none, (.store 1 (.tmp 2) (.tmp 59)), none⟩, ⟨none, (.store 1 (.tmp 3) (.const (.int .i64 0))), none⟩]) .ret)))))), 60, [(.loadN 1 2), (.load 3)]⟩
theorem c9 : compileFn Go.Proofs.Tryz.prog Go.Proofs.Tryz.f9 = some R9 := by kernel_rfl
theorem n9 : R9.ntmps = 60 := rfl
theorem a9 {args : List Value} {H : AHeap} {Q : Value → AHeap → Prop} (h : AWP Go.Proofs.Tryz.prog none R9.code (Fin R9 Q) (args ++ List.replicate (R9.ntmps - args.length) undef) H) : ACall Go.Proofs.Tryz.prog 9 args H Q := acall_intro mo Go.Proofs.Tryz.func9 c9 h

def R10 : RFunc :=
  ⟨(.seq (.ops [⟨(some 2), (.new [(.slice none 0 0)]), none⟩, ⟨(some 3), (.mov (.const (.int .i64 0))), none⟩]) (.seq (.seq (.ops [⟨(some 13), (.mov (.tmp 0)), none⟩, ⟨(some 14), (.lenS (.tmp 13)), none⟩, ⟨(some 15), (.cmp .gtr (.tmp 14) (.const (.int .i64 60000))), none⟩]) (.cond (.tmp 15) (.seq (.ops [⟨(some 16), (.build [(.slice none 0 0)] []), none⟩, ⟨none, (.store 1 (.tmp 2) (.tmp 16)), none⟩, ⟨(some 3), (.mov (.const (.int .i64 8))), none⟩]) .ret) .skip)) (.seq (.ops [⟨(some 4), (.new [(.slice none 0 0)]), none⟩]) (.seq (.ops [⟨(some 17), (.mov (.tmp 0)), none⟩, ⟨(some 18), (.call (.func 33) [(.tmp 17), (.const (.int .u8 32))]), none⟩, ⟨(some 5), (.mov (.tmp 18)), none⟩]) (.seq (.seq (.ops [⟨(some 6), (.mov (.const (.int .i64 0))), none⟩]) (.block 0 (.loop (.seq (.seq (.ops [⟨(some 19), (.mov (.tmp 6)), none⟩, ⟨(some 20), (.mov (.tmp 5)), none⟩, ⟨(some 21), (.len (.tmp 20)), none⟩, ⟨(some 22), (.cmp .lss (.tmp 19) (.tmp 21)), none⟩]) (.cond (.tmp 22) .skip (.exit 0))) (.seq (.block 1 (.seq (.ops [⟨(some 25), (.mov (.tmp 5)), none⟩, ⟨(some 26), (.mov (.tmp 6)), none⟩, ⟨(some 27), (.idxAddr 1 (.tmp 25) (.tmp 26)), none⟩, ⟨(some 28), (.load (.tmp 27)), none⟩, ⟨(some 29), (.call (.func 33) [(.tmp 28), (.const (.int .u8 64))]), none⟩, ⟨(some 7), (.mov (.tmp 29)), none⟩]) (.seq (.seq (.ops [⟨(some 30), (.mov (.tmp 7)), none⟩, ⟨(some 31), (.len (.tmp 30)), none⟩, ⟨(some 32), (.cmp .neq (.tmp 31) (.const (.int .i64 2))), none⟩]) (.cond (.tmp 32) (.seq (.ops [⟨(some 33), (.build [(.slice none 0 0)] []), none⟩, ⟨none, (.store 1 (.tmp 2) (.tmp 33)), none⟩, ⟨(some 3), (.mov (.const (.int .i64 7))), none⟩]) .ret) .skip)) (.seq (.ops [⟨(some 35), (.mov (.tmp 7)), none⟩, ⟨(some 36), (.idxAddr 1 (.tmp 35) (.const (.int .i64 0))), none⟩, ⟨(some 37), (.load (.tmp 36)), none⟩, ⟨(some 38), (.call (.func 34) [(.tmp 37), (.const (.int .i64 7))]), none⟩, ⟨(some 34), (.mov (.tmp 38)), none⟩, ⟨(some 39), (.extract (.tmp 34) 0), none⟩, ⟨(some 40), (.extract (.tmp 34) 1), none⟩, ⟨(some 8), (.mov (.tmp 39)), none⟩, ⟨(some 9), (.mov (.tmp 40)), none⟩]) (.seq (.ops [⟨(some 42), (.mov (.tmp 7)), none⟩, ⟨(some 43), (.idxAddr 1 (.tmp 42) (.const (.int .i64 1))), none⟩, ⟨(some 44), (.load (.tmp 43)), none⟩, ⟨(some 45), (.call (.func 34) [(.tmp 44), (.const (.int .i64 13))]), none⟩, ⟨(some 41), (.mov (.tmp 45)), none⟩, ⟨(some 46), (.extract (.tmp 41) 0), none⟩, ⟨(some 47), (.extract (.tmp 41) 1), none⟩, ⟨(some 10), (.mov (.tmp 46)), none⟩, ⟨(some 11), (.mov (.tmp 47)), none⟩]) (.seq (.seq (.ops [⟨(some 48), (.mov (.tmp 9)), none⟩, ⟨(some 49), (.not (.tmp 48)), none⟩, ⟨(some 50), (.mov (.tmp 49)), none⟩, ⟨(some 51), (.mov (.tmp 11)), (some (50, false))⟩, ⟨(some 52), (.not (.tmp 51)), (some (50, false))⟩, ⟨(some 53), (.pick (.tmp 50) (.const (.bool true)) (.tmp 52)), none⟩]) (.cond (.tmp 53) (.seq (.ops [⟨(some 54), (.build [(.slice none 0 0)] []), none⟩, ⟨none, (.store 1 (.tmp 2) (.tmp 54)), none⟩, ⟨(some 3), (.mov (.const (.int .i64 7))), none⟩]) .ret) .skip)) (.ops [⟨(some 55), (.fieldAddr 0 (.tmp 4)), none⟩, ⟨(some 56), (.load (.tmp 55)), none⟩, ⟨(some 57), (.mov (.tmp 8)), none⟩, ⟨(some 58), (.mov (.tmp 10)), none⟩, ⟨(some 59), (.build [(.int .i64 0), (.int .i64 0)] [(0, (1, (.tmp 57))), (1, (1, (.tmp 58)))]), none⟩, ⟨(some 60), (.buildSlice 2 1 [(.int .i64 0), (.int .i64 0)] [(0, (2, (.tmp 59)))]), none⟩, ⟨(some 61), (.append 2 16 (.tmp 56) (.tmp 60)), none⟩, ⟨(some 62), (.fieldAddr 0 (.tmp 4)), none⟩, ⟨none, (.store 1 (.tmp 62) (.tmp 61)), none⟩]))))))) (.ops [⟨(some 23), (.mov (.tmp 6)), none⟩, ⟨(some 24), (.arith .add (.tmp 23) (.const (.int .i64 1))), none⟩, ⟨(some 6), (.mov (.tmp 24)), none⟩])))))) (.seq (.seq (.ops [⟨(some 63), (.loadN 1 (.tmp 4)), none⟩, ⟨(some 64), (.call (.func 13) [(.tmp 63)]), none⟩, ⟨(some 12), (.mov (.tmp 64)), none⟩]) (.seq (.ops [⟨(some 65), (.mov (.tmp 12)), none⟩, ⟨(some 66), (.cmp .neq (.tmp 65) (.const (.int .i64 0))), none⟩]) (.cond (.tmp 66) (.seq (.ops [⟨(some 67), (.build [(.slice none 0 0)] []), none⟩, ⟨(some 68), (.mov (.tmp 12)), none⟩, ⟨none, (.store 1 (.tmp 2) (.tmp 67)), none⟩, ⟨(some 3), (.mov (.tmp 68)), none⟩]) .ret) .skip))) (.seq (.ops [⟨(some 69), (.loadN 1 (.tmp 4)), none⟩, ⟨none, (.store 1 (.tmp 2) (.tmp 69)), none⟩, ⟨(some 3), (.mov (.const (.int .i64 0))), none⟩]) .ret))))))), 70, [(.loadN 1 2), (.tmp 3)]⟩
theorem c10 : compileFn Go.Proofs.Tryz.prog Go.Proofs.Tryz.f10 = some R10 := by kernel_rfl
theorem n10 : R10.ntmps = 70 := rfl
theorem a10 {args : List Value} {H : AHeap} {Q : Value → AHeap → Prop} (h : AWP Go.Proofs.Tryz.prog none R10.code (Fin R10 Q) (args ++ List.replicate (R10.ntmps - args.length) undef) H) : ACall Go.Proofs.Tryz.prog 10 args H Q := acall_intro mo Go.Proofs.Tryz.func10 c10 h

def R11 : RFunc :=
  ⟨(.seq (.ops [⟨(some 1), (.box (.tmp 0)), none⟩, ⟨(some 2), (.mov (.const (.string ⟨#[]⟩))), none⟩]) (.seq (.ops [⟨(some 3), (.mov (.const (.string ⟨#[]⟩))), none⟩]) (.seq (.seq (.ops [⟨(some 4), (.mov (.const (.int .i64 0))), none⟩]) (.block 0 (.loop (.seq (.seq (.ops [⟨(some 5), (.mov (.tmp 4)), none⟩, ⟨(some 6), (.fieldAddr 0 (.tmp 1)), none⟩, ⟨(some 7), (.load (.tmp 6)), none⟩, ⟨(some 8), (.len (.tmp 7)), none⟩, ⟨(some 9), (.cmp .lss (.tmp 5) (.tmp 8)), none⟩]) (.cond (.tmp 9) .skip (.exit 0))) (.seq (.block 1 (.seq (.seq (.ops [⟨(some 12), (.mov (.tmp 4)), none⟩, ⟨(some 13), (.cmp .gtr (.tmp 12) (.const (.int .i64 0))), none⟩]) (.cond (.tmp 13) (.ops [⟨(some 14), (.mov (.tmp 3)), none⟩, ⟨(some 15), (.strOp .add (.tmp 14) (.const (.string ⟨#[32]⟩))), none⟩, ⟨(some 3), (.mov (.tmp 15)), none⟩]) .skip)) (.draw [(⟨(some 16), (.mov (.tmp 3)), none⟩, false), (⟨(some 17), (.fieldAddr 0 (.tmp 1)), none⟩, false), (⟨(some 18), (.load (.tmp 17)), none⟩, false), (⟨(some 19), (.mov (.tmp 4)), none⟩, false), (⟨(some 20), (.idxAddr 2 (.tmp 18) (.tmp 19)), none⟩, false), (⟨(some 21), (.fieldAddr 0 (.tmp 20)), none⟩, false), (⟨(some 22), (.load (.tmp 21)), none⟩, false), (⟨(some 23), (.call (.func 35) [(.tmp 22)]), none⟩, false), (⟨(some 24), (.strOp .add (.tmp 16) (.tmp 23)), none⟩, false), (⟨(some 25), (.strOp .add (.tmp 24) (.const (.string ⟨#[64]⟩))), none⟩, false), (⟨(some 26), (.fieldAddr 0 (.tmp 1)), none⟩, false), (⟨(some 27), (.load (.tmp 26)), none⟩, false), (⟨(some 28), (.mov (.tmp 4)), none⟩, false), (⟨(some 29), (.idxAddr 2 (.tmp 27) (.tmp 28)), none⟩, false), (⟨(some 30), (.fieldAddr 1 (.tmp 29)), none⟩, false), (⟨(some 31), (.load (.tmp 30)), none⟩, false), (⟨(some 32), (.call (.func 35) [(.tmp 31)]), none⟩, false), (⟨(some 33), (.strOp .add (.tmp 25) (.tmp 32)), none⟩, false), (⟨(some 3), (.mov (.tmp 33)), none⟩, false)]))) (.ops [⟨(some 10), (.mov (.tmp 4)), none⟩, ⟨(some 11), (.arith .add (.tmp 10) (.const (.int .i64 1))), none⟩, ⟨(some 4), (.mov (.tmp 11)), none⟩])))))) (.seq (.ops [⟨(some 34), (.mov (.tmp 3)), none⟩, ⟨(some 2), (.mov (.tmp 34)), none⟩]) .ret)))), 35, [(.tmp 2)]⟩
theorem c11 : compileFn Go.Proofs.Tryz.prog Go.Proofs.Tryz.f11 = some R11 := by kernel_rfl
theorem n11 : R11.ntmps = 35 := rfl
theorem a11 {args : List Value} {H : AHeap} {Q : Value → AHeap → Prop} (h : AWP Go.Proofs.Tryz.prog none R11.code (Fin R11 Q) (args ++ List.replicate (R11.ntmps - args.length) undef) H) : ACall Go.Proofs.Tryz.prog 11 args H Q := acall_intro mo Go.Proofs.Tryz.func11 c11 h

def R12 : RFunc :=
  ⟨(.seq (.ops [⟨(some 2), (.box (.tmp 0)), none⟩, ⟨(some 3), (.box (.tmp 1)), none⟩, ⟨(some 4), (.mov (.const (.bool false))), none⟩]) (.seq (.seq (.ops [⟨(some 6), (.fieldAddr 0 (.tmp 2)), none⟩, ⟨(some 7), (.load (.tmp 6)), none⟩, ⟨(some 8), (.len (.tmp 7)), none⟩, ⟨(some 9), (.fieldAddr 0 (.tmp 3)), none⟩, ⟨(some 10), (.load (.tmp 9)), none⟩, ⟨(some 11), (.len (.tmp 10)), none⟩, ⟨(some 12), (.cmp .neq (.tmp 8) (.tmp 11)), none⟩]) (.cond (.tmp 12) (.seq (.ops [⟨(some 4), (.mov (.const (.bool false))), none⟩]) .ret) .skip)) (.seq (.seq (.ops [⟨(some 5), (.mov (.const (.int .i64 0))), none⟩]) (.block 0 (.loop (.seq (.seq (.ops [⟨(some 13), (.mov (.tmp 5)), none⟩, ⟨(some 14), (.fieldAddr 0 (.tmp 2)), none⟩, ⟨(some 15), (.load (.tmp 14)), none⟩, ⟨(some 16), (.len (.tmp 15)), none⟩, ⟨(some 17), (.cmp .lss (.tmp 13) (.tmp 16)), none⟩]) (.cond (.tmp 17) .skip (.exit 0))) (.seq (.block 1 (.seq (.draw [(⟨(some 20), (.fieldAddr 0 (.tmp 2)), none⟩, false), (⟨(some 21), (.load (.tmp 20)), none⟩, false), (⟨(some 22), (.mov (.tmp 5)), none⟩, false), (⟨(some 23), (.idxAddr 2 (.tmp 21) (.tmp 22)), none⟩, false), (⟨(some 24), (.loadN 2 (.tmp 23)), none⟩, false), (⟨(some 25), (.fieldAddr 0 (.tmp 3)), none⟩, false), (⟨(some 26), (.load (.tmp 25)), none⟩, false), (⟨(some 27), (.mov (.tmp 5)), none⟩, false), (⟨(some 28), (.idxAddr 2 (.tmp 26) (.tmp 27)), none⟩, false), (⟨(some 29), (.loadN 2 (.tmp 28)), none⟩, false), (⟨(some 30), (.eqAgg true [(0, false), (1, false)] (.tmp 24) (.tmp 29)), none⟩, false)]) (.cond (.tmp 30) (.seq (.ops [⟨(some 4), (.mov (.const (.bool false))), none⟩]) .ret) .skip))) (.ops [⟨(some 18), (.mov (.tmp 5)), none⟩, ⟨(some 19), (.arith .add (.tmp 18) (.const (.int .i64 1))), none⟩, ⟨(some 5), (.mov (.tmp 19)), none⟩])))))) (.seq (.ops [⟨(some 4), (.mov (.const (.bool true))), none⟩]) .ret)))), 31, [(.tmp 4)]⟩
theorem c12 : compileFn Go.Proofs.Tryz.prog Go.Proofs.Tryz.f12 = some R12 := by kernel_rfl
theorem n12 : R12.ntmps = 31 := rfl
theorem a12 {args : List Value} {H : AHeap} {Q : Value → AHeap → Prop} (h : AWP Go.Proofs.Tryz.prog none R12.code (Fin R12 Q) (args ++ List.replicate (R12.ntmps - args.length) undef) H) : ACall Go.Proofs.Tryz.prog 12 args H Q := acall_intro mo Go.Proofs.Tryz.func12 c12 h

def R13 : RFunc :=
  ⟨(.seq (.ops [⟨(some 1), (.box (.tmp 0)), none⟩, ⟨(some 2), (.mov (.const (.int .i64 0))), none⟩]) (.seq (.ops [⟨(some 6), (.loadN 1 (.tmp 1)), none⟩, ⟨(some 7), (.call (.func 36) [(.tmp 6)]), none⟩, ⟨(some 5), (.mov (.tmp 7)), none⟩, ⟨(some 8), (.extract (.tmp 5) 0), none⟩, ⟨(some 9), (.extract (.tmp 5) 1), none⟩, ⟨(some 3), (.mov (.tmp 8)), none⟩, ⟨(some 4), (.mov (.tmp 9)), none⟩]) (.seq (.ops [⟨(some 10), (.mov (.tmp 4)), none⟩, ⟨(some 2), (.mov (.tmp 10)), none⟩]) .ret))), 11, [(.tmp 2)]⟩
theorem c13 : compileFn Go.Proofs.Tryz.prog Go.Proofs.Tryz.f13 = some R13 := by kernel_rfl
theorem n13 : R13.ntmps = 11 := rfl
theorem a13 {args : List Value} {H : AHeap} {Q : Value → AHeap → Prop} (h : AWP Go.Proofs.Tryz.prog none R13.code (Fin R13 Q) (args ++ List.replicate (R13.ntmps - args.length) undef) H) : ACall Go.Proofs.Tryz.prog 13 args H Q := acall_intro mo Go.Proofs.Tryz.func13 c13 h

def R14 : RFunc :=
  ⟨(.seq (.ops [⟨(some 1), (.box (.tmp 0)), none⟩, ⟨(some 2), (.mov (.const (.string ⟨#[]⟩))), none⟩]) (.seq (.draw [(⟨(some 3), (.fieldAddr 0 (.tmp 1)), none⟩, false), (⟨(some 4), (.load (.tmp 3)), none⟩, false), (⟨(some 5), (.call (.func 27) [(.tmp 4)]), none⟩, false), (⟨(some 6), (.fieldAddr 1 (.tmp 1)), none⟩, false), (⟨(some 7), (.fieldAddr 0 (.tmp 6)), none⟩, false), (⟨(some 8), (.load (.tmp 7)), none⟩, false), (⟨(some 9), (.call (.func 27) [(.tmp 8)]), none⟩, false), (⟨(some 10), (.fieldAddr 1 (.tmp 1)), none⟩, false), (⟨(some 11), (.fieldAddr 1 (.tmp 10)), none⟩, false), (⟨(some 12), (.load (.tmp 11)), none⟩, false), (⟨(some 13), (.call (.func 27) [(.tmp 12)]), none⟩, false), (⟨(some 14), (.buildSlice 1 3 [(.string ⟨#[]⟩), (.string ⟨#[]⟩), (.string ⟨#[]⟩)] [(0, (1, (.tmp 5))), (1, (1, (.tmp 9))), (2, (1, (.tmp 13)))]), none⟩, false), (⟨(some 15), (.call (.func 28) [(.tmp 14), (.const (.string ⟨#[32]⟩))]), none⟩, false), (⟨(some 2), (.mov (.tmp 15)), none⟩, false)]) .ret)), 16, [(.tmp 2)]⟩
theorem c14 : compileFn Go.Proofs.Tryz.prog Go.Proofs.Tryz.f14 = some R14 := by kernel_rfl
def R18 : RFunc :=
  ⟨(.seq (.ops [⟨(some 1), (.box (.tmp 0)), none⟩, ⟨(some 2), (.mov (.const (.int .i64 0))), none⟩]) (.seq (.seq (.ops [⟨(some 3), (.fieldAddr 0 (.tmp 1)), none⟩, ⟨(some 4), (.load (.tmp 3)), none⟩, ⟨(some 5), (.call (.func 39) [(.tmp 4)]), none⟩, ⟨(some 6), (.not (.tmp 5)), none⟩, ⟨(some 7), (.mov (.tmp 6)), none⟩, ⟨(some 8), (.fieldAddr 1 (.tmp 1)), (some (7, false))⟩, ⟨(some 9), (.fieldAddr 0 (.tmp 8)), (some (7, false))⟩, ⟨(some 10), (.load (.tmp 9)), (some (7, false))⟩, ⟨(some 11), (.call (.func 40) [(.tmp 10)]), (some (7, false))⟩, ⟨(some 12), (.not (.tmp 11)), (some (7, false))⟩, ⟨(some 13), (.pick (.tmp 7) (.const (.bool true)) (.tmp 12)), none⟩, ⟨(some 14), (.mov (.tmp 13)), none⟩, ⟨(some 15), (.fieldAddr 1 (.tmp 1)), (some (14, false))⟩, ⟨(some 16), (.fieldAddr 1 (.tmp 15)), (some (14, false))⟩, ⟨(some 17), (.load (.tmp 16)), (some (14, false))⟩, ⟨(some 18), (.call (.func 40) [(.tmp 17)]), (some (14, false))⟩, ⟨(some 19), (.not (.tmp 18)), (some (14, false))⟩, ⟨(some 20), (.pick (.tmp 14) (.const (.bool true)) (.tmp 19)), none⟩]) (.cond (.tmp 20) (.seq (.ops [⟨(some 2), (.mov (.const (.int .i64 2))), none⟩]) .ret) .skip)) (.seq (.seq (.ops [⟨(some 21), (.fieldAddr 1 (.tmp 1)), none⟩, ⟨(some 22), (.fieldAddr 0 (.tmp 21)), none⟩, ⟨(some 23), (.load (.tmp 22)), none⟩, ⟨(some 24), (.fieldAddr 1 (.tmp 1)), none⟩, ⟨(some 25), (.fieldAddr 1 (.tmp 24)), none⟩, ⟨(some 26), (.load (.tmp 25)), none⟩, ⟨(some 27), (.cmp .gtr (.tmp 23) (.tmp 26)), none⟩]) (.cond (.tmp 27) (.seq (.ops [⟨(some 2), (.mov (.const (.int .i64 9))), none⟩]) .ret) .skip)) (.seq (.ops [⟨(some 2), (.mov (.const (.int .i64 0))), none⟩]) .ret)))), 28, [(.tmp 2)]⟩
theorem c18 : compileFn Go.Proofs.Tryz.prog Go.Proofs.Tryz.f18 = some R18 := by kernel_rfl
def R19 : RFunc :=
  ⟨(.seq (.ops [⟨(some 2), (.box (.tmp 0)), none⟩, ⟨(some 3), (.box (.tmp 1)), none⟩, ⟨(some 4), (.new [(.int .i64 0), (.int .i64 0)]), none⟩, ⟨(some 5), (.mov (.const (.int .i64 0))), none⟩]) (.seq (.seq (.ops [⟨(some 14), (.loadN 1 (.tmp 2)), none⟩, ⟨(some 15), (.buildSlice 1 1 [(.slice none 0 0)] [(0, (1, (.tmp 14)))]), none⟩, ⟨(some 16), (.call (.func 32) [(.tmp 15)]), none⟩, ⟨(some 6), (.mov (.tmp 16)), none⟩]) (.seq (.ops [⟨(some 17), (.mov (.tmp 6)), none⟩, ⟨(some 18), (.cmp .neq (.tmp 17) (.const (.int .i64 0))), none⟩]) (.cond (.tmp 18) (.seq (.ops [⟨(some 19), (.build [(.int .i64 0), (.int .i64 0)] []), none⟩, ⟨(some 20), (.mov (.tmp 6)), none⟩, ⟨none, (.store 2 (.tmp 4) (.tmp 19)), none⟩, ⟨(some 5), (.mov (.tmp 20)), none⟩]) .ret) .skip))) (.seq (.ops [⟨(some 22), (.loadN 1 (.tmp 2)), none⟩, ⟨(some 23), (.mkFunc (.func 42) [] [(.tmp 3)]), none⟩, ⟨(some 24), (.call (.func 41) [(.tmp 22), (.tmp 23)]), none⟩, ⟨(some 21), (.mov (.tmp 24)), none⟩, ⟨(some 25), (.extract (.tmp 21) 0), none⟩, ⟨(some 26), (.extract (.tmp 21) 1), none⟩, ⟨(some 7), (.new [(.int .i64 0), (.int .i64 0), (.int .i64 0), (.int .i64 0)]), none⟩, ⟨none, (.store 4 (.tmp 7) (.tmp 25)), none⟩, ⟨(some 8), (.mov (.tmp 26)), none⟩]) (.seq (.seq (.ops [⟨(some 27), (.mov (.tmp 8)), none⟩, ⟨(some 28), (.not (.tmp 27)), none⟩]) (.cond (.tmp 28) (.seq (.ops [⟨(some 29), (.build [(.int .i64 0), (.int .i64 0)] []), none⟩, ⟨none, (.store 2 (.tmp 4) (.tmp 29)), none⟩, ⟨(some 5), (.mov (.const (.int .i64 2))), none⟩]) .ret) .skip)) (.seq (.draw [(⟨(some 31), (.load (.tmp 3)), none⟩, false), (⟨(some 32), (.fieldAddr 0 (.tmp 7)), none⟩, false), (⟨(some 33), (.fieldAddr 1 (.tmp 32)), none⟩, false), (⟨(some 34), (.load (.tmp 33)), none⟩, false), (⟨(some 35), (.arith .sub (.tmp 31) (.tmp 34)), none⟩, false), (⟨(some 36), (.conv .u64 (.tmp 35)), none⟩, false), (⟨(some 37), (.loadN 4 (.tmp 7)), none⟩, false), (⟨(some 38), (.call (.func 45) [(.tmp 37)]), none⟩, false), (⟨(some 39), (.arith .mul (.const (.int .i64 64)) (.tmp 38)), none⟩, false), (⟨(some 40), (.conv .u64 (.tmp 39)), none⟩, false), (⟨(some 41), (.call (.func 44) [(.tmp 36), (.tmp 40)]), none⟩, false), (⟨(some 30), (.mov (.tmp 41)), none⟩, false), (⟨(some 42), (.extract (.tmp 30) 0), none⟩, false), (⟨(some 43), (.extract (.tmp 30) 1), none⟩, false), (⟨(some 9), (.mov (.tmp 42)), none⟩, false), (⟨(some 10), (.mov (.tmp 43)), none⟩, false)]) (.seq (.ops [⟨(some 45), (.mov (.tmp 9)), none⟩, ⟨(some 46), (.mov (.tmp 10)), none⟩, ⟨(some 47), (.loadN 4 (.tmp 7)), none⟩, ⟨(some 48), (.call (.func 47) [(.tmp 47)]), none⟩, ⟨(some 49), (.conv .u64 (.tmp 48)), none⟩, ⟨(some 50), (.call (.func 46) [(.tmp 45), (.tmp 46), (.tmp 49)]), none⟩, ⟨(some 44), (.mov (.tmp 50)), none⟩, ⟨(some 51), (.extract (.tmp 44) 0), none⟩, ⟨(some 52), (.extract (.tmp 44) 1), none⟩, ⟨(some 11), (.mov (.tmp 51)), none⟩, ⟨(some 12), (.mov (.tmp 52)), none⟩]) (.seq (.ops [⟨(some 53), (.fieldAddr 0 (.tmp 7)), none⟩, ⟨(some 54), (.fieldAddr 0 (.tmp 53)), none⟩, ⟨(some 55), (.load (.tmp 54)), none⟩, ⟨(some 56), (.arith .mul (.const (.int .i64 64)) (.tmp 55)), none⟩, ⟨(some 57), (.mov (.tmp 11)), none⟩, ⟨(some 58), (.conv .i64 (.tmp 57)), none⟩, ⟨(some 59), (.arith .add (.tmp 56) (.tmp 58)), none⟩, ⟨(some 13), (.mov (.tmp 59)), none⟩]) (.seq (.seq (.ops [⟨(some 60), (.mov (.tmp 12)), none⟩, ⟨(some 61), (.cmp .eql (.tmp 60) (.const (.int .u64 0))), none⟩]) (.cond (.tmp 61) (.seq (.ops [⟨(some 62), (.mov (.tmp 13)), none⟩, ⟨(some 63), (.mov (.tmp 13)), none⟩, ⟨(some 64), (.build [(.int .i64 0), (.int .i64 0)] [(0, (1, (.tmp 62))), (1, (1, (.tmp 63)))]), none⟩, ⟨none, (.store 2 (.tmp 4) (.tmp 64)), none⟩, ⟨(some 5), (.mov (.const (.int .i64 0))), none⟩]) .ret) .skip)) (.seq (.ops [⟨(some 65), (.mov (.tmp 13)), none⟩, ⟨(some 66), (.mov (.tmp 13)), none⟩, ⟨(some 67), (.arith .add (.tmp 66) (.const (.int .i64 1))), none⟩, ⟨(some 68), (.build [(.int .i64 0), (.int .i64 0)] [(0, (1, (.tmp 65))), (1, (1, (.tmp 67)))]), none⟩, ⟨none, (.store 2 (.tmp 4) (.tmp 68)), none⟩, ⟨(some 5), (.mov (.const (.int .i64 0))), none⟩]) .ret))))))))), 69, [(.loadN 2 4), (.tmp 5)]⟩
theorem c19 : compileFn Go.Proofs.Tryz.prog Go.Proofs.Tryz.f19 = some R19 := by kernel_rfl
theorem n19 : R19.ntmps = 69 := rfl
theorem a19 {args : List Value} {H : AHeap} {Q : Value → AHeap → Prop} (h : AWP Go.Proofs.Tryz.prog none R19.code (Fin R19 Q) (args ++ List.replicate (R19.ntmps - args.length) undef) H) : ACall Go.Proofs.Tryz.prog 19 args H Q := acall_intro mo Go.Proofs.Tryz.func19 c19 h

def R20 : RFunc :=
  ⟨(.seq (.ops [⟨(some 0), (.new [(.slice none 0 0)]), none⟩]) (.seq (.ops [⟨(some 1), (.build [(.int .i64 0), (.int .i64 0)] []), none⟩, ⟨(some 2), (.build [(.int .i64 0), (.int .i64 0)] [(0, (1, (.const (.int .i64 10)))), (1, (1, (.const (.int .i64 100))))]), none⟩, ⟨(some 3), (.build [(.int .i64 0), (.int .i64 0)] [(0, (1, (.const (.int .i64 20)))), (1, (1, (.const (.int .i64 220))))]), none⟩, ⟨(some 4), (.buildSlice 2 3 [(.int .i64 0), (.int .i64 0), (.int .i64 0), (.int .i64 0), (.int .i64 0), (.int .i64 0)] [(0, (2, (.tmp 1))), (2, (2, (.tmp 2))), (4, (2, (.tmp 3)))]), none⟩, ⟨(some 5), (.build [(.slice none 0 0)] [(0, (1, (.tmp 4)))]), none⟩, ⟨none, (.store 1 (.tmp 0) (.tmp 5)), none⟩]) .ret)), 6, [(.loadN 1 0)]⟩
theorem c20 : compileFn Go.Proofs.Tryz.prog Go.Proofs.Tryz.f20 = some R20 := by kernel_rfl
theorem n20 : R20.ntmps = 6 := rfl
theorem a20 {args : List Value} {H : AHeap} {Q : Value → AHeap → Prop} (h : AWP Go.Proofs.Tryz.prog none R20.code (Fin R20 Q) (args ++ List.replicate (R20.ntmps - args.length) undef) H) : ACall Go.Proofs.Tryz.prog 20 args H Q := acall_intro mo Go.Proofs.Tryz.func20 c20 h

def R21 : RFunc :=
  ⟨(.seq (.ops [⟨(some 2), (.box (.tmp 0)), none⟩, ⟨(some 4), (.new [(.int .i64 0), (.int .i64 0)]), none⟩, ⟨(some 5), (.mov (.const (.int .i64 0))), none⟩]) (.seq (.ops [⟨(some 9), (.loadN 3 (.tmp 2)), none⟩, ⟨(some 10), (.call (.func 48) [(.tmp 9)]), none⟩, ⟨(some 8), (.mov (.tmp 10)), none⟩, ⟨(some 11), (.extract (.tmp 8) 0), none⟩, ⟨(some 12), (.extract (.tmp 8) 1), none⟩, ⟨(some 6), (.new [(.int .i64 0), (.int .i64 0), (.slice none 0 0)]), none⟩, ⟨none, (.store 3 (.tmp 6) (.tmp 11)), none⟩, ⟨(some 7), (.mov (.tmp 12)), none⟩]) (.seq (.seq (.draw [(⟨(some 13), (.mov (.tmp 7)), none⟩, false), (⟨(some 14), (.mov (.tmp 1)), none⟩, false), (⟨(some 15), (.call (.func 51) [(.tmp 14)]), none⟩, false), (⟨(some 16), (.call (.func 50) [(.tmp 15), (.const (.int .i64 2))]), none⟩, false), (⟨(some 17), (.fieldAddr 2 (.tmp 2)), none⟩, false), (⟨(some 18), (.load (.tmp 17)), none⟩, false), (⟨(some 19), (.len (.tmp 18)), none⟩, false), (⟨(some 20), (.cmp .gtr (.tmp 19) (.const (.int .i64 0))), none⟩, false), (⟨(some 21), (.call (.func 50) [(.tmp 20), (.const (.int .i64 12))]), none⟩, false), (⟨(some 22), (.buildSlice 1 3 [(.int .i64 0), (.int .i64 0), (.int .i64 0)] [(0, (1, (.tmp 13))), (1, (1, (.tmp 16))), (2, (1, (.tmp 21)))]), none⟩, false), (⟨(some 23), (.call (.func 49) [(.tmp 22)]), none⟩, false), (⟨(some 7), (.mov (.tmp 23)), none⟩, false)]) (.seq (.ops [⟨(some 24), (.mov (.tmp 7)), none⟩, ⟨(some 25), (.cmp .neq (.tmp 24) (.const (.int .i64 0))), none⟩]) (.cond (.tmp 25) (.seq (.ops [⟨(some 26), (.build [(.int .i64 0), (.int .i64 0)] []), none⟩, ⟨(some 27), (.mov (.tmp 7)), none⟩, ⟨none, (.store 2 (.tmp 4) (.tmp 26)), none⟩, ⟨(some 5), (.mov (.tmp 27)), none⟩]) .ret) .skip))) (.seq (.seq (.ops [⟨(some 28), (.loadN 3 (.tmp 6)), none⟩, ⟨(some 29), (.call (.func 52) [(.tmp 28)]), none⟩, ⟨(some 30), (.not (.tmp 29)), none⟩]) (.cond (.tmp 30) (.seq (.ops [⟨(some 31), (.build [(.int .i64 0), (.int .i64 0)] []), none⟩, ⟨none, (.store 2 (.tmp 4) (.tmp 31)), none⟩, ⟨(some 5), (.mov (.const (.int .i64 13))), none⟩]) .ret) .skip)) (.seq (.ops [⟨(some 32), (.loadN 3 (.tmp 6)), none⟩, ⟨(some 33), (.mov (.tmp 1)), none⟩, ⟨(some 34), (.call (.func 53) [(.tmp 32), (.tmp 33)]), none⟩, ⟨none, (.store 2 (.tmp 4) (.tmp 34)), none⟩, ⟨(some 5), (.mov (.const (.int .i64 0))), none⟩]) .ret))))), 35, [(.loadN 2 4), (.tmp 5)]⟩
theorem c21 : compileFn Go.Proofs.Tryz.prog Go.Proofs.Tryz.f21 = some R21 := by kernel_rfl
theorem n21 : R21.ntmps = 35 := rfl
theorem a21 {args : List Value} {H : AHeap} {Q : Value → AHeap → Prop} (h : AWP Go.Proofs.Tryz.prog none R21.code (Fin R21 Q) (args ++ List.replicate (R21.ntmps - args.length) undef) H) : ACall Go.Proofs.Tryz.prog 21 args H Q := acall_intro mo Go.Proofs.Tryz.func21 c21 h

def R22 : RFunc :=
  ⟨(.seq (.ops [⟨(some 0), (.new [(.int .i64 0), (.int .i64 0), (.slice none 0 0)]), none⟩]) (.seq (.ops [⟨(some 1), (.build [(.int .i64 0), (.int .i64 0)] [(0, (1, (.const (.int .i64 8)))), (1, (1, (.const (.int .i64 12))))]), none⟩, ⟨(some 2), (.build [(.int .i64 0), (.int .i64 0), (.int .i64 0)] []), none⟩, ⟨(some 3), (.build [(.int .i64 0), (.int .i64 0)] [(0, (1, (.const (.int .i64 90)))), (1, (1, (.const (.int .i64 130))))]), none⟩, ⟨(some 4), (.build [(.int .i64 0), (.int .i64 0), (.int .i64 0)] [(0, (1, (.const (.int .i64 10)))), (1, (2, (.tmp 3)))]), none⟩, ⟨(some 5), (.build [(.int .i64 0), (.int .i64 0)] [(0, (1, (.const (.int .i64 150)))), (1, (1, (.const (.int .i64 210))))]), none⟩, ⟨(some 6), (.build [(.int .i64 0), (.int .i64 0), (.int .i64 0)] [(0, (1, (.const (.int .i64 20)))), (1, (2, (.tmp 5)))]), none⟩, ⟨(some 7), (.buildSlice 3 3 [(.int .i64 0), (.int .i64 0), (.int .i64 0), (.int .i64 0), (.int .i64 0), (.int .i64 0), (.int .i64 0), (.int .i64 0), (.int .i64 0)] [(0, (3, (.tmp 2))), (3, (3, (.tmp 4))), (6, (3, (.tmp 6)))]), none⟩, ⟨(some 8), (.build [(.int .i64 0), (.int .i64 0), (.slice none 0 0)] [(0, (2, (.tmp 1))), (2, (1, (.tmp 7)))]), none⟩, ⟨none, (.store 3 (.tmp 0) (.tmp 8)), none⟩]) .ret)), 9, [(.loadN 3 0)]⟩
theorem c22 : compileFn Go.Proofs.Tryz.prog Go.Proofs.Tryz.f22 = some R22 := by kernel_rfl
theorem n22 : R22.ntmps = 9 := rfl
theorem a22 {args : List Value} {H : AHeap} {Q : Value → AHeap → Prop} (h : AWP Go.Proofs.Tryz.prog none R22.code (Fin R22 Q) (args ++ List.replicate (R22.ntmps - args.length) undef) H) : ACall Go.Proofs.Tryz.prog 22 args H Q := acall_intro mo Go.Proofs.Tryz.func22 c22 h

def R23 : RFunc :=
  ⟨(.seq (.ops [⟨(some 1), (.box (.tmp 0)), none⟩, ⟨(some 2), (.new [(.slice none 0 0)]), none⟩, ⟨(some 3), (.mov (.const (.int .i64 0))), none⟩]) (.seq (.ops [⟨(some 22), (.loadN 3 (.tmp 1)), none⟩, ⟨(some 23), (.call (.func 48) [(.tmp 22)]), none⟩, ⟨(some 21), (.mov (.tmp 23)), none⟩, ⟨(some 24), (.extract (.tmp 21) 0), none⟩, ⟨(some 25), (.extract (.tmp 21) 1), none⟩, ⟨(some 4), (.new [(.int .i64 0), (.int .i64 0), (.slice none 0 0)]), none⟩, ⟨none, (.store 3 (.tmp 4) (.tmp 24)), none⟩, ⟨(some 5), (.mov (.tmp 25)), none⟩]) (.seq (.ops [⟨(some 6), (.mov (.func 54)), none⟩]) (.seq (.ops [⟨(some 26), (.mov (.tmp 5)), none⟩, ⟨(some 27), (.fieldAddr 2 (.tmp 1)), none⟩, ⟨(some 28), (.load (.tmp 27)), none⟩, ⟨(some 29), (.len (.tmp 28)), none⟩, ⟨(some 30), (.cmp .geq (.tmp 29) (.const (.int .i64 2))), none⟩, ⟨(some 31), (.call (.func 50) [(.tmp 30), (.const (.int .i64 10))]), none⟩, ⟨(some 32), (.buildSlice 1 2 [(.int .i64 0), (.int .i64 0)] [(0, (1, (.tmp 26))), (1, (1, (.tmp 31)))]), none⟩, ⟨(some 33), (.call (.func 49) [(.tmp 32)]), none⟩, ⟨(some 5), (.mov (.tmp 33)), none⟩]) (.seq (.seq (.ops [⟨(some 34), (.mov (.tmp 5)), none⟩, ⟨(some 35), (.cmp .eql (.tmp 34) (.const (.int .i64 0))), none⟩, ⟨(some 36), (.mov (.tmp 35)), none⟩, ⟨(some 37), (.fieldAddr 2 (.tmp 1)), (some (36, true))⟩, ⟨(some 38), (.load (.tmp 37)), (some (36, true))⟩, ⟨(some 39), (.mov (.tmp 6)), (some (36, true))⟩, ⟨(some 40), (.call (.func 55) [(.tmp 38), (.tmp 39)]), (some (36, true))⟩, ⟨(some 41), (.pick (.tmp 36) (.tmp 40) (.const (.bool false))), none⟩]) (.cond (.tmp 41) (.ops [⟨(some 5), (.mov (.const (.int .i64 8))), none⟩]) .skip)) (.seq (.seq (.ops [⟨(some 42), (.mov (.tmp 5)), none⟩, ⟨(some 43), (.cmp .neq (.tmp 42) (.const (.int .i64 0))), none⟩]) (.cond (.tmp 43) (.seq (.ops [⟨(some 44), (.build [(.slice none 0 0)] []), none⟩, ⟨(some 45), (.mov (.tmp 5)), none⟩, ⟨none, (.store 1 (.tmp 2) (.tmp 44)), none⟩, ⟨(some 3), (.mov (.tmp 45)), none⟩]) .ret) .skip)) (.seq (.ops [⟨(some 46), (.fieldAddr 2 (.tmp 1)), none⟩, ⟨(some 47), (.load (.tmp 46)), none⟩, ⟨(some 48), (.len (.tmp 47)), none⟩, ⟨(some 49), (.arith .sub (.tmp 48) (.const (.int .i64 1))), none⟩, ⟨(some 7), (.new [(.int .i64 0)]), none⟩, ⟨none, (.store 1 (.tmp 7) (.tmp 49)), none⟩]) (.seq (.ops [⟨(some 50), .makeMap, none⟩, ⟨(some 8), (.new [(.map none)]), none⟩, ⟨none, (.store 1 (.tmp 8) (.tmp 50)), none⟩]) (.seq (.ops [⟨(some 9), (.new [(.int .i64 0), (.int .i64 0)]), none⟩]) (.seq (.seq (.ops [⟨(some 51), (.fieldAddr 2 (.tmp 1)), none⟩, ⟨(some 52), (.load (.tmp 51)), none⟩, ⟨(some 53), (.call (.func 56) [(.tmp 52)]), none⟩]) (.block 0 (.rangeFunc (.tmp 53) [54, 55] (.seq (.ops [⟨(some 10), (.mov (.tmp 54)), none⟩]) (.ops [⟨(some 11), (.new [(.int .i64 0), (.int .i64 0), (.int .i64 0)]), none⟩, ⟨none, (.store 3 (.tmp 11) (.tmp 55)), none⟩])) (.block 1 (.seq (.ops [⟨(some 56), (.fieldAddr 1 (.tmp 11)), none⟩, ⟨(some 57), (.fieldAddr 0 (.tmp 56)), none⟩, ⟨(some 58), (.load (.tmp 57)), none⟩, ⟨(some 12), (.mov (.tmp 58)), none⟩]) (.block 2 (.loop (.seq (.seq (.ops [⟨(some 59), (.mov (.tmp 12)), none⟩, ⟨(some 60), (.fieldAddr 1 (.tmp 11)), none⟩, ⟨(some 61), (.fieldAddr 1 (.tmp 60)), none⟩, ⟨(some 62), (.load (.tmp 61)), none⟩, ⟨(some 63), (.cmp .leq (.tmp 59) (.tmp 62)), none⟩]) (.cond (.tmp 63) .skip (.exit 2))) (.seq (.block 3 (.seq (.ops [⟨(some 66), (.fieldAddr 0 (.tmp 11)), none⟩, ⟨(some 67), (.load (.tmp 66)), none⟩, ⟨(some 68), (.mov (.tmp 12)), none⟩, ⟨(some 69), (.build [(.int .i64 0), (.int .i64 0)] [(0, (1, (.tmp 67))), (1, (1, (.tmp 68)))]), none⟩, ⟨(some 13), (.new [(.int .i64 0), (.int .i64 0)]), none⟩, ⟨none, (.store 2 (.tmp 13) (.tmp 69)), none⟩]) (.seq (.seq (.ops [⟨(some 70), (.mov (.tmp 10)), none⟩, ⟨(some 71), (.load (.tmp 7)), none⟩, ⟨(some 72), (.cmp .eql (.tmp 70) (.tmp 71)), none⟩]) (.cond (.tmp 72) (.seq (.ops [⟨(some 73), (.load (.tmp 8)), none⟩, ⟨(some 74), (.loadN 2 (.tmp 13)), none⟩, ⟨(some 75), (.build [(.int .i64 0), (.int .i64 0), (.int .i64 0), (.int .i64 0)] [(0, (1, (.const (.int .i64 1))))]), none⟩, ⟨none, (.mapPut [(0, false), (1, false)] (.tmp 73) (.tmp 74) (.tmp 75)), none⟩]) (.exit 3)) .skip)) (.seq (.ops [⟨(some 77), (.loadN 3 (.tmp 4)), none⟩, ⟨(some 78), (.mov (.tmp 10)), none⟩, ⟨(some 79), (.loadN 2 (.tmp 13)), none⟩, ⟨(some 80), (.load (.tmp 8)), none⟩, ⟨(some 81), (.call (.func 57) [(.tmp 77), (.tmp 78), (.tmp 79), (.tmp 80)]), none⟩, ⟨(some 76), (.mov (.tmp 81)), none⟩, ⟨(some 82), (.extract (.tmp 76) 0), none⟩, ⟨(some 83), (.extract (.tmp 76) 1), none⟩, ⟨(some 14), (.new [(.int .i64 0), (.int .i64 0), (.int .i64 0), (.int .i64 0)]), none⟩, ⟨none, (.store 4 (.tmp 14) (.tmp 82)), none⟩, ⟨(some 15), (.mov (.tmp 83)), none⟩]) (.seq (.ops [⟨(some 84), (.mov (.tmp 15)), none⟩]) (.cond (.tmp 84) (.seq (.ops [⟨(some 85), (.load (.tmp 8)), none⟩, ⟨(some 86), (.loadN 2 (.tmp 13)), none⟩, ⟨(some 87), (.loadN 4 (.tmp 14)), none⟩, ⟨none, (.mapPut [(0, false), (1, false)] (.tmp 85) (.tmp 86) (.tmp 87)), none⟩]) (.seq (.ops [⟨(some 89), (.load (.tmp 8)), none⟩, ⟨(some 90), (.loadN 2 (.tmp 9)), none⟩, ⟨(some 91), (.mapGet (.agg #[(.int .i64 0), (.int .i64 0), (.int .i64 0), (.int .i64 0)]) [(0, false), (1, false)] true (.tmp 89) (.tmp 90)), none⟩, ⟨(some 88), (.mov (.tmp 91)), none⟩, ⟨(some 92), (.extract (.tmp 88) 0), none⟩, ⟨(some 93), (.extract (.tmp 88) 1), none⟩, ⟨(some 16), (.new [(.int .i64 0), (.int .i64 0), (.int .i64 0), (.int .i64 0)]), none⟩, ⟨none, (.store 4 (.tmp 16) (.tmp 92)), none⟩, ⟨(some 17), (.mov (.tmp 93)), none⟩]) (.seq (.ops [⟨(some 94), (.mov (.tmp 10)), none⟩, ⟨(some 95), (.cmp .eql (.tmp 94) (.const (.int .i64 0))), none⟩, ⟨(some 96), (.mov (.tmp 95)), none⟩, ⟨(some 97), (.mov (.tmp 17)), (some (96, true))⟩, ⟨(some 98), (.not (.tmp 97)), (some (96, true))⟩, ⟨(some 99), (.mov (.tmp 98)), (some (96, true))⟩, ⟨(some 100), (.fieldAddr 0 (.tmp 9)), (some (99, false))⟩, ⟨(some 101), (.load (.tmp 100)), (some (99, false))⟩, ⟨(some 102), (.fieldAddr 0 (.tmp 11)), (some (99, false))⟩, ⟨(some 103), (.load (.tmp 102)), (some (99, false))⟩, ⟨(some 104), (.cmp .neq (.tmp 101) (.tmp 103)), (some (99, false))⟩, ⟨(some 105), (.pick (.tmp 99) (.const (.bool true)) (.tmp 104)), (some (96, true))⟩, ⟨(some 106), (.mov (.tmp 105)), (some (96, true))⟩, ⟨(some 107), (.fieldAddr 0 (.tmp 14)), (some (106, false))⟩, ⟨(some 108), (.load (.tmp 107)), (some (106, false))⟩, ⟨(some 109), (.fieldAddr 0 (.tmp 16)), (some (106, false))⟩, ⟨(some 110), (.load (.tmp 109)), (some (106, false))⟩, ⟨(some 111), (.cmp .lss (.tmp 108) (.tmp 110)), (some (106, false))⟩, ⟨(some 112), (.pick (.tmp 106) (.const (.bool true)) (.tmp 111)), (some (96, true))⟩, ⟨(some 113), (.pick (.tmp 96) (.tmp 112) (.const (.bool false))), none⟩]) (.cond (.tmp 113) (.ops [⟨(some 114), (.loadN 2 (.tmp 13)), none⟩, ⟨none, (.store 2 (.tmp 9) (.tmp 114)), none⟩]) .skip)))) .skip)))))) (.ops [⟨(some 64), (.mov (.tmp 12)), none⟩, ⟨(some 65), (.arith .add (.tmp 64) (.const (.int .i64 1))), none⟩, ⟨(some 12), (.mov (.tmp 65)), none⟩])))))))))) (.seq (.ops [⟨(some 116), (.load (.tmp 8)), none⟩, ⟨(some 117), (.loadN 2 (.tmp 9)), none⟩, ⟨(some 118), (.mapGet (.agg #[(.int .i64 0), (.int .i64 0), (.int .i64 0), (.int .i64 0)]) [(0, false), (1, false)] true (.tmp 116) (.tmp 117)), none⟩, ⟨(some 115), (.mov (.tmp 118)), none⟩, ⟨(some 119), (.extract (.tmp 115) 0), none⟩, ⟨(some 120), (.extract (.tmp 115) 1), none⟩, ⟨(some 18), (.new [(.int .i64 0), (.int .i64 0), (.int .i64 0), (.int .i64 0)]), none⟩, ⟨none, (.store 4 (.tmp 18) (.tmp 119)), none⟩, ⟨(some 19), (.mov (.tmp 120)), none⟩]) (.seq (.seq (.draw [(⟨(some 121), (.mov (.tmp 19)), none⟩, false), (⟨(some 122), (.not (.tmp 121)), none⟩, false), (⟨(some 123), (.mov (.tmp 122)), none⟩, false), (⟨(some 124), (.fieldAddr 0 (.tmp 9)), (some (123, false))⟩, false), (⟨(some 125), (.load (.tmp 124)), (some (123, false))⟩, false), (⟨(some 126), (.fieldAddr 2 (.tmp 1)), (some (123, false))⟩, false), (⟨(some 127), (.load (.tmp 126)), (some (123, false))⟩, false), (⟨(some 128), (.idxAddr 3 (.tmp 127) (.const (.int .i64 0))), (some (123, false))⟩, false), (⟨(some 129), (.fieldAddr 0 (.tmp 128)), (some (123, false))⟩, false), (⟨(some 130), (.load (.tmp 129)), (some (123, false))⟩, false), (⟨(some 131), (.cmp .neq (.tmp 125) (.tmp 130)), (some (123, false))⟩, false), (⟨(some 132), (.pick (.tmp 123) (.const (.bool true)) (.tmp 131)), none⟩, false)]) (.cond (.tmp 132) (.seq (.ops [⟨(some 133), (.build [(.slice none 0 0)] []), none⟩, ⟨none, (.store 1 (.tmp 2) (.tmp 133)), none⟩, ⟨(some 3), (.mov (.const (.int .i64 13))), none⟩]) .ret) .skip)) (.seq (.ops [⟨(some 134), (.loadN 2 (.tmp 9)), none⟩, ⟨(some 135), (.buildSlice 2 1 [(.int .i64 0), (.int .i64 0)] [(0, (2, (.tmp 134)))]), none⟩, ⟨(some 136), (.build [(.slice none 0 0)] [(0, (1, (.tmp 135)))]), none⟩, ⟨(some 20), (.new [(.slice none 0 0)]), none⟩, ⟨none, (.store 1 (.tmp 20) (.tmp 136)), none⟩]) (.seq (.block 4 (.loop (.seq (.seq (.ops [⟨(some 137), (.fieldAddr 0 (.tmp 18)), none⟩, ⟨(some 138), (.load (.tmp 137)), none⟩, ⟨(some 139), (.cmp .gtr (.tmp 138) (.const (.int .i64 1))), none⟩]) (.cond (.tmp 139) .skip (.exit 4))) (.block 5 (.seq (.ops [⟨(some 140), (.fieldAddr 0 (.tmp 20)), none⟩, ⟨(some 141), (.load (.tmp 140)), none⟩, ⟨(some 142), (.fieldAddr 1 (.tmp 18)), none⟩, ⟨(some 143), (.loadN 2 (.tmp 142)), none⟩, ⟨(some 144), (.buildSlice 2 1 [(.int .i64 0), (.int .i64 0)] [(0, (2, (.tmp 143)))]), none⟩, ⟨(some 145), (.append 2 16 (.tmp 141) (.tmp 144)), none⟩, ⟨(some 146), (.fieldAddr 0 (.tmp 20)), none⟩, ⟨none, (.store 1 (.tmp 146) (.tmp 145)), none⟩]) (.ops [⟨(some 147), (.load (.tmp 8)), none⟩, ⟨(some 148), (.fieldAddr 1 (.tmp 18)), none⟩, ⟨(some 149), (.loadN 2 (.tmp 148)), none⟩, ⟨(some 150), (.mapGet (.agg #[(.int .i64 0), (.int .i64 0), (.int .i64 0), (.int .i64 0)]) [(0, false), (1, false)] false (.tmp 147) (.tmp 149)), none⟩, ⟨none, (.store 4 (.tmp 18) (.tmp 150)), none⟩])))))) (.seq (.ops [⟨(some 151), (.loadN 1 (.tmp 20)), none⟩, ⟨none, (.store 1 (.tmp 2) (.tmp 151)), none⟩, ⟨(some 3), (.mov (.const (.int .i64 0))), none⟩]) .ret))))))))))))))), 152, [(.loadN 1 2), (.tmp 3)]⟩
theorem c23 : compileFn Go.Proofs.Tryz.prog Go.Proofs.Tryz.f23 = some R23 := by kernel_rfl
theorem n23 : R23.ntmps = 152 := rfl
theorem a23 {args : List Value} {H : AHeap} {Q : Value → AHeap → Prop} (h : AWP Go.Proofs.Tryz.prog none R23.code (Fin R23 Q) (args ++ List.replicate (R23.ntmps - args.length) undef) H) : ACall Go.Proofs.Tryz.prog 23 args H Q := acall_intro mo Go.Proofs.Tryz.func23 c23 h

def R24 : RFunc :=
  ⟨(.seq (.ops [⟨(some 0), (.new [(.int .i64 0), (.int .i64 0), (.slice none 0 0)]), none⟩]) (.seq (.ops [⟨(some 1), (.build [(.int .i64 0), (.int .i64 0)] [(0, (1, (.const (.int .i64 8)))), (1, (1, (.const (.int .i64 12))))]), none⟩, ⟨(some 2), (.build [(.int .i64 0), (.int .i64 0), (.int .i64 0)] []), none⟩, ⟨(some 3), (.build [(.int .i64 0), (.int .i64 0)] [(0, (1, (.const (.int .i64 90)))), (1, (1, (.const (.int .i64 92))))]), none⟩, ⟨(some 4), (.build [(.int .i64 0), (.int .i64 0), (.int .i64 0)] [(0, (1, (.const (.int .i64 10)))), (1, (2, (.tmp 3)))]), none⟩, ⟨(some 5), (.build [(.int .i64 0), (.int .i64 0)] [(0, (1, (.const (.int .i64 200)))), (1, (1, (.const (.int .i64 204))))]), none⟩, ⟨(some 6), (.build [(.int .i64 0), (.int .i64 0), (.int .i64 0)] [(0, (1, (.const (.int .i64 20)))), (1, (2, (.tmp 5)))]), none⟩, ⟨(some 7), (.buildSlice 3 3 [(.int .i64 0), (.int .i64 0), (.int .i64 0), (.int .i64 0), (.int .i64 0), (.int .i64 0), (.int .i64 0), (.int .i64 0), (.int .i64 0)] [(0, (3, (.tmp 2))), (3, (3, (.tmp 4))), (6, (3, (.tmp 6)))]), none⟩, ⟨(some 8), (.build [(.int .i64 0), (.int .i64 0), (.slice none 0 0)] [(0, (2, (.tmp 1))), (2, (1, (.tmp 7)))]), none⟩, ⟨none, (.store 3 (.tmp 0) (.tmp 8)), none⟩]) .ret)), 9, [(.loadN 3 0)]⟩
theorem c24 : compileFn Go.Proofs.Tryz.prog Go.Proofs.Tryz.f24 = some R24 := by kernel_rfl
theorem n24 : R24.ntmps = 9 := rfl
theorem a24 {args : List Value} {H : AHeap} {Q : Value → AHeap → Prop} (h : AWP Go.Proofs.Tryz.prog none R24.code (Fin R24 Q) (args ++ List.replicate (R24.ntmps - args.length) undef) H) : ACall Go.Proofs.Tryz.prog 24 args H Q := acall_intro mo Go.Proofs.Tryz.func24 c24 h

def R25 : RFunc :=
  ⟨(.seq (.ops [⟨(some 1), (.box (.tmp 0)), none⟩, ⟨(some 2), (.new [(.int .i64 0), (.int .i64 0)]), none⟩, ⟨(some 3), (.mov (.const (.int .i64 0))), none⟩, ⟨(some 4), (.mov (.const (.int .i64 0))), none⟩]) (.seq (.seq (.ops [⟨(some 15), (.loadN 1 (.tmp 1)), none⟩, ⟨(some 16), (.buildSlice 1 1 [(.slice none 0 0)] [(0, (1, (.tmp 15)))]), none⟩, ⟨(some 17), (.call (.func 32) [(.tmp 16)]), none⟩, ⟨(some 5), (.mov (.tmp 17)), none⟩]) (.seq (.ops [⟨(some 18), (.mov (.tmp 5)), none⟩, ⟨(some 19), (.cmp .neq (.tmp 18) (.const (.int .i64 0))), none⟩]) (.cond (.tmp 19) (.seq (.ops [⟨(some 20), (.build [(.int .i64 0), (.int .i64 0)] []), none⟩, ⟨(some 21), (.mov (.tmp 5)), none⟩, ⟨none, (.store 2 (.tmp 2) (.tmp 20)), none⟩, ⟨(some 3), (.mov (.const (.int .i64 0))), none⟩, ⟨(some 4), (.mov (.tmp 21)), none⟩]) .ret) .skip))) (.seq (.draw [(⟨(some 22), (.fieldAddr 0 (.tmp 1)), none⟩, false), (⟨(some 23), (.load (.tmp 22)), none⟩, false), (⟨(some 24), (.idxAddr 2 (.tmp 23) (.const (.int .i64 0))), none⟩, false), (⟨(some 25), (.loadN 2 (.tmp 24)), none⟩, false), (⟨(some 26), (.fieldAddr 0 (.tmp 1)), none⟩, false), (⟨(some 27), (.load (.tmp 26)), none⟩, false), (⟨(some 28), (.fieldAddr 0 (.tmp 1)), none⟩, false), (⟨(some 29), (.load (.tmp 28)), none⟩, false), (⟨(some 30), (.len (.tmp 29)), none⟩, false), (⟨(some 31), (.arith .sub (.tmp 30) (.const (.int .i64 1))), none⟩, false), (⟨(some 32), (.idxAddr 2 (.tmp 27) (.tmp 31)), none⟩, false), (⟨(some 33), (.loadN 2 (.tmp 32)), none⟩, false), (⟨(some 34), (.build [(.int .i64 0), (.int .i64 0), (.int .i64 0), (.int .i64 0)] [(0, (2, (.tmp 25))), (2, (2, (.tmp 33)))]), none⟩, false), (⟨(some 6), (.new [(.int .i64 0), (.int .i64 0), (.int .i64 0), (.int .i64 0)]), none⟩, false), (⟨none, (.store 4 (.tmp 6) (.tmp 34)), none⟩, false)]) (.seq (.ops [⟨(some 7), (.mov (.const (.int .i64 0))), none⟩, ⟨(some 8), (.mov (.const (.int .i64 0))), none⟩]) (.seq (.seq (.ops [⟨(some 35), (.fieldAddr 0 (.tmp 1)), none⟩, ⟨(some 36), (.load (.tmp 35)), none⟩, ⟨(some 37), (.len (.tmp 36)), none⟩, ⟨(some 38), (.mov (.const (.int .i64 0))), none⟩]) (.block 0 (.loop (.seq (.ops [⟨(some 39), (.cmp .lss (.tmp 38) (.tmp 37)), none⟩]) (.seq (.cond (.tmp 39) .skip (.exit 0)) (.seq (.block 1 (.seq (.ops [⟨(some 40), (.mov (.tmp 38)), none⟩, ⟨(some 41), (.idxAddr 2 (.tmp 36) (.tmp 38)), none⟩, ⟨(some 42), (.loadN 2 (.tmp 41)), none⟩, ⟨(some 10), (.new [(.int .i64 0), (.int .i64 0)]), none⟩, ⟨(some 9), (.mov (.tmp 40)), none⟩, ⟨none, (.store 2 (.tmp 10) (.tmp 42)), none⟩]) (.seq (.draw [(⟨(some 43), (.fieldAddr 1 (.tmp 10)), none⟩, false), (⟨(some 44), (.load (.tmp 43)), none⟩, false), (⟨(some 45), (.loadN 4 (.tmp 6)), none⟩, false), (⟨(some 46), (.call (.func 45) [(.tmp 45)]), none⟩, false), (⟨(some 47), (.arith .mul (.tmp 44) (.tmp 46)), none⟩, false), (⟨(some 48), (.loadN 4 (.tmp 6)), none⟩, false), (⟨(some 49), (.fieldAddr 0 (.tmp 10)), none⟩, false), (⟨(some 50), (.load (.tmp 49)), none⟩, false), (⟨(some 51), (.call (.func 58) [(.tmp 48), (.tmp 50)]), none⟩, false), (⟨(some 52), (.arith .sub (.tmp 47) (.tmp 51)), none⟩, false), (⟨(some 11), (.mov (.tmp 52)), none⟩, false)]) (.seq (.ops [⟨(some 53), (.mov (.tmp 11)), none⟩, ⟨(some 54), (.mov (.tmp 11)), none⟩, ⟨(some 55), (.neg (.tmp 54)), none⟩, ⟨(some 56), (.most true (.tmp 53) [(.tmp 55)]), none⟩, ⟨(some 12), (.mov (.tmp 56)), none⟩]) (.seq (.ops [⟨(some 57), (.mov (.tmp 12)), none⟩, ⟨(some 58), (.mov (.tmp 7)), none⟩, ⟨(some 59), (.cmp .gtr (.tmp 57) (.tmp 58)), none⟩]) (.cond (.tmp 59) (.ops [⟨(some 60), (.mov (.tmp 12)), none⟩, ⟨(some 61), (.mov (.tmp 9)), none⟩, ⟨(some 7), (.mov (.tmp 60)), none⟩, ⟨(some 8), (.mov (.tmp 61)), none⟩]) .skip)))))) (.ops [⟨(some 62), (.arith .add (.tmp 38) (.const (.int .i64 1))), none⟩, ⟨(some 38), (.mov (.tmp 62)), none⟩]))))))) (.seq (.ops [⟨(some 64), (.mov (.tmp 7)), none⟩, ⟨(some 65), (.loadN 4 (.tmp 6)), none⟩, ⟨(some 66), (.call (.func 45) [(.tmp 65)]), none⟩, ⟨(some 67), (.call (.func 59) [(.tmp 64), (.tmp 66)]), none⟩, ⟨(some 63), (.mov (.tmp 67)), none⟩, ⟨(some 68), (.extract (.tmp 63) 0), none⟩, ⟨(some 69), (.extract (.tmp 63) 1), none⟩, ⟨(some 13), (.new [(.int .i64 0), (.int .i64 0)]), none⟩, ⟨none, (.store 2 (.tmp 13) (.tmp 68)), none⟩, ⟨(some 14), (.mov (.tmp 69)), none⟩]) (.seq (.seq (.ops [⟨(some 70), (.mov (.tmp 14)), none⟩, ⟨(some 71), (.cmp .neq (.tmp 70) (.const (.int .i64 0))), none⟩]) (.cond (.tmp 71) (.seq (.ops [⟨(some 72), (.build [(.int .i64 0), (.int .i64 0)] []), none⟩, ⟨(some 73), (.mov (.tmp 14)), none⟩, ⟨none, (.store 2 (.tmp 2) (.tmp 72)), none⟩, ⟨(some 3), (.mov (.const (.int .i64 0))), none⟩, ⟨(some 4), (.mov (.tmp 73)), none⟩]) .ret) .skip)) (.seq (.ops [⟨(some 74), (.loadN 2 (.tmp 13)), none⟩, ⟨(some 75), (.mov (.tmp 8)), none⟩, ⟨none, (.store 2 (.tmp 2) (.tmp 74)), none⟩, ⟨(some 3), (.mov (.tmp 75)), none⟩, ⟨(some 4), (.mov (.const (.int .i64 0))), none⟩]) .ret)))))))), 76, [(.loadN 2 2), (.tmp 3), (.tmp 4)]⟩
theorem c25 : compileFn Go.Proofs.Tryz.prog Go.Proofs.Tryz.f25 = some R25 := by kernel_rfl
theorem n25 : R25.ntmps = 76 := rfl
theorem a25 {args : List Value} {H : AHeap} {Q : Value → AHeap → Prop} (h : AWP Go.Proofs.Tryz.prog none R25.code (Fin R25 Q) (args ++ List.replicate (R25.ntmps - args.length) undef) H) : ACall Go.Proofs.Tryz.prog 25 args H Q := acall_intro mo Go.Proofs.Tryz.func25 c25 h

def R26 : RFunc :=
  ⟨(.seq (.ops [⟨(some 2), (.new [(.int .i64 0), (.int .i64 0)]), none⟩]) (.seq (.ops [⟨(some 3), (.mov (.tmp 0)), none⟩, ⟨(some 4), (.build [(.int .i64 0), (.int .i64 0)] [(0, (1, (.tmp 3))), (1, (1, (.const (.int .i64 1))))]), none⟩, ⟨none, (.store 2 (.tmp 2) (.tmp 4)), none⟩]) .ret)), 5, [(.loadN 2 2)]⟩
theorem c26 : compileFn Go.Proofs.Tryz.prog Go.Proofs.Tryz.f26 = some R26 := by kernel_rfl
theorem n26 : R26.ntmps = 5 := rfl
theorem a26 {args : List Value} {H : AHeap} {Q : Value → AHeap → Prop} (h : AWP Go.Proofs.Tryz.prog none R26.code (Fin R26 Q) (args ++ List.replicate (R26.ntmps - args.length) undef) H) : ACall Go.Proofs.Tryz.prog 26 args H Q := acall_intro mo Go.Proofs.Tryz.func26 c26 h

def R29 : RFunc :=
  ⟨(.seq (.ops [⟨(some 4), (.mov (.const .nilFunc)), none⟩]) (.seq (.ops [⟨(some 5), (.mov (.tmp 0)), none⟩, ⟨(some 6), (.mov (.tmp 1)), none⟩, ⟨(some 7), (.call (.func 64) [(.tmp 5), (.tmp 6), (.const (.int .i64 0))]), none⟩, ⟨(some 4), (.mov (.tmp 7)), none⟩]) .ret)), 8, [(.tmp 4)]⟩
theorem c29 : compileFn Go.Proofs.Tryz.prog Go.Proofs.Tryz.f29 = some R29 := by kernel_rfl
theorem n29 : R29.ntmps = 8 := rfl
theorem a29 {args : List Value} {H : AHeap} {Q : Value → AHeap → Prop} (h : AWP Go.Proofs.Tryz.prog none R29.code (Fin R29 Q) (args ++ List.replicate (R29.ntmps - args.length) undef) H) : ACall Go.Proofs.Tryz.prog 29 args H Q := acall_intro mo Go.Proofs.Tryz.func29 c29 h

def R31 : RFunc :=
  ⟨(.seq (.ops [⟨(some 4), (.mov (.const (.int .i64 0))), none⟩, ⟨(some 5), (.mov (.const (.bool false))), none⟩]) (.seq (.ops [⟨(some 9), (.mov (.tmp 0)), none⟩, ⟨(some 10), (.call (.func 66) [(.tmp 9)]), none⟩, ⟨(some 8), (.mov (.tmp 10)), none⟩, ⟨(some 11), (.extract (.tmp 8) 0), none⟩, ⟨(some 12), (.extract (.tmp 8) 1), none⟩, ⟨(some 6), (.mov (.tmp 11)), none⟩, ⟨(some 7), (.mov (.tmp 12)), none⟩]) (.seq (.ops [⟨(some 13), (.mov (.tmp 6)), none⟩, ⟨(some 14), (.mov (.tmp 7)), none⟩, ⟨(some 15), (.eqv 4 false (.tmp 14) (.const .nilIface)), none⟩, ⟨(some 16), (.mov (.tmp 15)), none⟩, ⟨(some 17), (.mov (.tmp 6)), (some (16, true))⟩, ⟨(some 18), (.cmp .geq (.tmp 17) (.const (.int .i64 0))), (some (16, true))⟩, ⟨(some 19), (.pick (.tmp 16) (.tmp 18) (.const (.bool false))), none⟩, ⟨(some 20), (.mov (.tmp 19)), none⟩, ⟨(some 21), (.mov (.tmp 6)), (some (20, true))⟩, ⟨(some 22), (.call (.func 27) [(.tmp 21)]), (some (20, true))⟩, ⟨(some 23), (.mov (.tmp 0)), (some (20, true))⟩, ⟨(some 24), (.strOp .eql (.tmp 22) (.tmp 23)), (some (20, true))⟩, ⟨(some 25), (.pick (.tmp 20) (.tmp 24) (.const (.bool false))), none⟩, ⟨(some 26), (.mov (.tmp 25)), none⟩, ⟨(some 27), (.mov (.tmp 0)), (some (26, true))⟩, ⟨(some 28), (.lenS (.tmp 27)), (some (26, true))⟩, ⟨(some 29), (.mov (.tmp 1)), (some (26, true))⟩, ⟨(some 30), (.cmp .leq (.tmp 28) (.tmp 29)), (some (26, true))⟩, ⟨(some 31), (.pick (.tmp 26) (.tmp 30) (.const (.bool false))), none⟩, ⟨(some 4), (.mov (.tmp 13)), none⟩, ⟨(some 5), (.mov (.tmp 31)), none⟩]) .ret))), 32, [(.tmp 4), (.tmp 5)]⟩
theorem c31 : compileFn Go.Proofs.Tryz.prog Go.Proofs.Tryz.f31 = some R31 := by kernel_rfl
theorem n31 : R31.ntmps = 32 := rfl
theorem a31 {args : List Value} {H : AHeap} {Q : Value → AHeap → Prop} (h : AWP Go.Proofs.Tryz.prog none R31.code (Fin R31 Q) (args ++ List.replicate (R31.ntmps - args.length) undef) H) : ACall Go.Proofs.Tryz.prog 31 args H Q := acall_intro mo Go.Proofs.Tryz.func31 c31 h

def R32 : RFunc :=
  ⟨(.seq (.ops [⟨(some 2), (.mov (.const (.int .i64 0))), none⟩]) (.seq (.seq (.ops [⟨(some 7), (.mov (.tmp 0)), none⟩, ⟨(some 8), (.len (.tmp 7)), none⟩, ⟨(some 9), (.mov (.const (.int .i64 0))), none⟩]) (.block 0 (.loop (.seq (.ops [⟨(some 10), (.cmp .lss (.tmp 9) (.tmp 8)), none⟩]) (.seq (.cond (.tmp 10) .skip (.exit 0)) (.seq (.block 1 (.seq (.ops [⟨(some 11), (.idxAddr 1 (.tmp 7) (.tmp 9)), none⟩, ⟨(some 12), (.loadN 1 (.tmp 11)), none⟩, ⟨(some 4), (.new [(.slice none 0 0)]), none⟩, ⟨none, (.store 1 (.tmp 4) (.tmp 12)), none⟩]) (.seq (.ops [⟨(some 14), (.loadN 1 (.tmp 4)), none⟩, ⟨(some 15), (.call (.func 67) [(.tmp 14)]), none⟩, ⟨(some 13), (.mov (.tmp 15)), none⟩, ⟨(some 16), (.extract (.tmp 13) 0), none⟩, ⟨(some 17), (.extract (.tmp 13) 1), none⟩, ⟨(some 5), (.mov (.tmp 16)), none⟩, ⟨(some 6), (.mov (.tmp 17)), none⟩]) (.seq (.ops [⟨(some 18), (.mov (.tmp 6)), none⟩, ⟨(some 19), (.cmp .neq (.tmp 18) (.const (.int .i64 0))), none⟩]) (.cond (.tmp 19) (.seq (.ops [⟨(some 20), (.mov (.tmp 6)), none⟩, ⟨(some 2), (.mov (.tmp 20)), none⟩]) .ret) .skip))))) (.ops [⟨(some 21), (.arith .add (.tmp 9) (.const (.int .i64 1))), none⟩, ⟨(some 9), (.mov (.tmp 21)), none⟩]))))))) (.seq (.ops [⟨(some 2), (.mov (.const (.int .i64 0))), none⟩]) .ret))), 22, [(.tmp 2)]⟩
theorem c32 : compileFn Go.Proofs.Tryz.prog Go.Proofs.Tryz.f32 = some R32 := by kernel_rfl
theorem n32 : R32.ntmps = 22 := rfl
theorem a32 {args : List Value} {H : AHeap} {Q : Value → AHeap → Prop} (h : AWP Go.Proofs.Tryz.prog none R32.code (Fin R32 Q) (args ++ List.replicate (R32.ntmps - args.length) undef) H) : ACall Go.Proofs.Tryz.prog 32 args H Q := acall_intro mo Go.Proofs.Tryz.func32 c32 h

def R33 : RFunc :=
  ⟨(.seq (.ops [⟨(some 4), (.mov (.const (.slice none 0 0))), none⟩]) (.seq (.ops [⟨(some 5), (.mov (.const (.slice none 0 0))), none⟩]) (.seq (.ops [⟨(some 6), (.mov (.const (.int .i64 0))), none⟩]) (.seq (.seq (.ops [⟨(some 7), (.mov (.const (.int .i64 0))), none⟩]) (.block 0 (.loop (.seq (.seq (.ops [⟨(some 8), (.mov (.tmp 7)), none⟩, ⟨(some 9), (.mov (.tmp 0)), none⟩, ⟨(some 10), (.lenS (.tmp 9)), none⟩, ⟨(some 11), (.cmp .lss (.tmp 8) (.tmp 10)), none⟩]) (.cond (.tmp 11) .skip (.exit 0))) (.seq (.block 1 (.seq (.ops [⟨(some 14), (.mov (.tmp 0)), none⟩, ⟨(some 15), (.mov (.tmp 7)), none⟩, ⟨(some 16), (.idxS (.tmp 14) (.tmp 15)), none⟩, ⟨(some 17), (.mov (.tmp 1)), none⟩, ⟨(some 18), (.cmp .eql (.tmp 16) (.tmp 17)), none⟩]) (.cond (.tmp 18) (.seq (.ops [⟨(some 19), (.mov (.tmp 5)), none⟩, ⟨(some 20), (.mov (.tmp 0)), none⟩, ⟨(some 21), (.mov (.tmp 6)), none⟩, ⟨(some 22), (.mov (.tmp 7)), none⟩, ⟨(some 23), (.sliceS (.tmp 20) (some (.tmp 21)) (some (.tmp 22))), none⟩, ⟨(some 24), (.buildSlice 1 1 [(.string ⟨#[]⟩)] [(0, (1, (.tmp 23)))]), none⟩, ⟨(some 25), (.append 1 16 (.tmp 19) (.tmp 24)), none⟩, ⟨(some 5), (.mov (.tmp 25)), none⟩]) (.ops [⟨(some 26), (.mov (.tmp 7)), none⟩, ⟨(some 27), (.arith .add (.tmp 26) (.const (.int .i64 1))), none⟩, ⟨(some 6), (.mov (.tmp 27)), none⟩])) .skip))) (.ops [⟨(some 12), (.mov (.tmp 7)), none⟩, ⟨(some 13), (.arith .add (.tmp 12) (.const (.int .i64 1))), none⟩, ⟨(some 7), (.mov (.tmp 13)), none⟩])))))) (.seq (.ops [⟨(some 28), (.mov (.tmp 5)), none⟩, ⟨(some 29), (.mov (.tmp 0)), none⟩, ⟨(some 30), (.mov (.tmp 6)), none⟩, ⟨(some 31), (.sliceS (.tmp 29) (some (.tmp 30)) none), none⟩, ⟨(some 32), (.buildSlice 1 1 [(.string ⟨#[]⟩)] [(0, (1, (.tmp 31)))]), none⟩, ⟨(some 33), (.append 1 16 (.tmp 28) (.tmp 32)), none⟩, ⟨(some 4), (.mov (.tmp 33)), none⟩]) .ret))))), 34, [(.tmp 4)]⟩
theorem c33 : compileFn Go.Proofs.Tryz.prog Go.Proofs.Tryz.f33 = some R33 := by kernel_rfl
theorem n33 : R33.ntmps = 34 := rfl
theorem a33 {args : List Value} {H : AHeap} {Q : Value → AHeap → Prop} (h : AWP Go.Proofs.Tryz.prog none R33.code (Fin R33 Q) (args ++ List.replicate (R33.ntmps - args.length) undef) H) : ACall Go.Proofs.Tryz.prog 33 args H Q := acall_intro mo Go.Proofs.Tryz.func33 c33 h

def R34 : RFunc :=
  ⟨(.seq (.ops [⟨(some 4), (.mov (.const (.int .i64 0))), none⟩, ⟨(some 5), (.mov (.const (.bool false))), none⟩]) (.seq (.ops [⟨(some 9), (.mov (.tmp 0)), none⟩, ⟨(some 10), (.mov (.tmp 1)), none⟩, ⟨(some 11), (.call (.func 68) [(.tmp 9), (.tmp 10)]), none⟩, ⟨(some 8), (.mov (.tmp 11)), none⟩, ⟨(some 12), (.extract (.tmp 8) 0), none⟩, ⟨(some 13), (.extract (.tmp 8) 1), none⟩, ⟨(some 6), (.mov (.tmp 12)), none⟩, ⟨(some 7), (.mov (.tmp 13)), none⟩]) (.seq (.draw [(⟨(some 14), (.mov (.tmp 6)), none⟩, false), (⟨(some 15), (.mov (.tmp 7)), none⟩, false), (⟨(some 16), (.mov (.tmp 15)), none⟩, false), (⟨(some 17), (.mov (.tmp 0)), (some (16, true))⟩, false), (⟨(some 18), (.idxS (.tmp 17) (.const (.int .i64 0))), (some (16, true))⟩, false), (⟨(some 19), (.cmp .neq (.tmp 18) (.const (.int .u8 45))), (some (16, true))⟩, false), (⟨(some 20), (.pick (.tmp 16) (.tmp 19) (.const (.bool false))), none⟩, false), (⟨(some 4), (.mov (.tmp 14)), none⟩, false), (⟨(some 5), (.mov (.tmp 20)), none⟩, false)]) .ret))), 21, [(.tmp 4), (.tmp 5)]⟩
theorem c34 : compileFn Go.Proofs.Tryz.prog Go.Proofs.Tryz.f34 = some R34 := by kernel_rfl
theorem n34 : R34.ntmps = 21 := rfl
theorem a34 {args : List Value} {H : AHeap} {Q : Value → AHeap → Prop} (h : AWP Go.Proofs.Tryz.prog none R34.code (Fin R34 Q) (args ++ List.replicate (R34.ntmps - args.length) undef) H) : ACall Go.Proofs.Tryz.prog 34 args H Q := acall_intro mo Go.Proofs.Tryz.func34 c34 h

def R35 : RFunc :=
  ⟨(.seq (.ops [⟨(some 2), (.mov (.const (.string ⟨#[]⟩))), none⟩]) (.seq (.seq (.ops [⟨(some 6), (.mov (.tmp 0)), none⟩, ⟨(some 7), (.cmp .eql (.tmp 6) (.const (.int .i64 0))), none⟩]) (.cond (.tmp 7) (.seq (.ops [⟨(some 2), (.mov (.const (.string ⟨#[48]⟩))), none⟩]) .ret) .skip)) (.seq (.ops [⟨(some 3), (.mov (.const (.string ⟨#[]⟩))), none⟩, ⟨(some 4), (.mov (.const (.string ⟨#[]⟩))), none⟩]) (.seq (.seq (.ops [⟨(some 8), (.mov (.tmp 0)), none⟩, ⟨(some 9), (.cmp .lss (.tmp 8) (.const (.int .i64 0))), none⟩]) (.cond (.tmp 9) (.ops [⟨(some 4), (.mov (.const (.string ⟨#[45]⟩))), none⟩]) .skip)) (.seq (.block 0 (.loop (.seq (.seq (.ops [⟨(some 10), (.mov (.tmp 0)), none⟩, ⟨(some 11), (.cmp .neq (.tmp 10) (.const (.int .i64 0))), none⟩]) (.cond (.tmp 11) .skip (.exit 0))) (.block 1 (.seq (.ops [⟨(some 12), (.mov (.tmp 0)), none⟩, ⟨(some 13), (.arith .rem (.tmp 12) (.const (.int .i64 10))), none⟩, ⟨(some 5), (.mov (.tmp 13)), none⟩]) (.seq (.ops [⟨(some 14), (.mov (.tmp 5)), none⟩, ⟨(some 15), (.call (.func 69) [(.tmp 14)]), none⟩, ⟨(some 16), (.arith .add (.const (.int .i64 48)) (.tmp 15)), none⟩, ⟨(some 17), (.conv .u8 (.tmp 16)), none⟩, ⟨(some 18), (.buildSlice 1 1 [(.int .u8 0)] [(0, (1, (.tmp 17)))]), none⟩, ⟨(some 19), (.byteS (.tmp 18)), none⟩, ⟨(some 20), (.mov (.tmp 3)), none⟩, ⟨(some 21), (.strOp .add (.tmp 19) (.tmp 20)), none⟩, ⟨(some 3), (.mov (.tmp 21)), none⟩]) (.ops [⟨(some 22), (.mov (.tmp 0)), none⟩, ⟨(some 23), (.arith .quo (.tmp 22) (.const (.int .i64 10))), none⟩, ⟨(some 0), (.mov (.tmp 23)), none⟩]))))))) (.seq (.ops [⟨(some 24), (.mov (.tmp 4)), none⟩, ⟨(some 25), (.mov (.tmp 3)), none⟩, ⟨(some 26), (.strOp .add (.tmp 24) (.tmp 25)), none⟩, ⟨(some 2), (.mov (.tmp 26)), none⟩]) .ret)))))), 27, [(.tmp 2)]⟩
theorem c35 : compileFn Go.Proofs.Tryz.prog Go.Proofs.Tryz.f35 = some R35 := by kernel_rfl
theorem n35 : R35.ntmps = 27 := rfl
theorem a35 {args : List Value} {H : AHeap} {Q : Value → AHeap → Prop} (h : AWP Go.Proofs.Tryz.prog none R35.code (Fin R35 Q) (args ++ List.replicate (R35.ntmps - args.length) undef) H) : ACall Go.Proofs.Tryz.prog 35 args H Q := acall_intro mo Go.Proofs.Tryz.func35 c35 h

def R36 : RFunc :=
  ⟨(.seq (.ops [⟨(some 1), (.box (.tmp 0)), none⟩, ⟨(some 2), (.mov (.const (.int .i64 0))), none⟩, ⟨(some 3), (.mov (.const (.int .i64 0))), none⟩]) (.seq (.seq (.ops [⟨(some 6), (.fieldAddr 0 (.tmp 1)), none⟩, ⟨(some 7), (.load (.tmp 6)), none⟩, ⟨(some 8), (.len (.tmp 7)), none⟩, ⟨(some 9), (.cmp .lss (.tmp 8) (.const (.int .i64 2))), none⟩]) (.cond (.tmp 9) (.seq (.ops [⟨(some 2), (.mov (.const (.int .i64 0))), none⟩, ⟨(some 3), (.mov (.const (.int .i64 10))), none⟩]) .ret) .skip)) (.seq (.seq (.ops [⟨(some 10), (.fieldAddr 0 (.tmp 1)), none⟩, ⟨(some 11), (.load (.tmp 10)), none⟩, ⟨(some 12), (.len (.tmp 11)), none⟩, ⟨(some 13), (.cmp .gtr (.tmp 12) (.const (.int .i64 20))), none⟩]) (.cond (.tmp 13) (.seq (.ops [⟨(some 2), (.mov (.const (.int .i64 0))), none⟩, ⟨(some 3), (.mov (.const (.int .i64 8))), none⟩]) .ret) .skip)) (.seq (.seq (.ops [⟨(some 4), (.mov (.const (.int .i64 0))), none⟩]) (.block 0 (.loop (.seq (.seq (.ops [⟨(some 14), (.mov (.tmp 4)), none⟩, ⟨(some 15), (.fieldAddr 0 (.tmp 1)), none⟩, ⟨(some 16), (.load (.tmp 15)), none⟩, ⟨(some 17), (.len (.tmp 16)), none⟩, ⟨(some 18), (.cmp .lss (.tmp 14) (.tmp 17)), none⟩]) (.cond (.tmp 18) .skip (.exit 0))) (.seq (.block 1 (.seq (.ops [⟨(some 21), (.fieldAddr 0 (.tmp 1)), none⟩, ⟨(some 22), (.load (.tmp 21)), none⟩, ⟨(some 23), (.mov (.tmp 4)), none⟩, ⟨(some 24), (.idxAddr 2 (.tmp 22) (.tmp 23)), none⟩, ⟨(some 25), (.loadN 2 (.tmp 24)), none⟩, ⟨(some 5), (.new [(.int .i64 0), (.int .i64 0)]), none⟩, ⟨none, (.store 2 (.tmp 5) (.tmp 25)), none⟩]) (.seq (.seq (.ops [⟨(some 26), (.fieldAddr 0 (.tmp 5)), none⟩, ⟨(some 27), (.load (.tmp 26)), none⟩, ⟨(some 28), (.call (.func 39) [(.tmp 27)]), none⟩, ⟨(some 29), (.not (.tmp 28)), none⟩, ⟨(some 30), (.mov (.tmp 29)), none⟩, ⟨(some 31), (.fieldAddr 1 (.tmp 5)), (some (30, false))⟩, ⟨(some 32), (.load (.tmp 31)), (some (30, false))⟩, ⟨(some 33), (.call (.func 40) [(.tmp 32)]), (some (30, false))⟩, ⟨(some 34), (.not (.tmp 33)), (some (30, false))⟩, ⟨(some 35), (.pick (.tmp 30) (.const (.bool true)) (.tmp 34)), none⟩]) (.cond (.tmp 35) (.seq (.ops [⟨(some 36), (.mov (.tmp 4)), none⟩, ⟨(some 2), (.mov (.tmp 36)), none⟩, ⟨(some 3), (.mov (.const (.int .i64 2))), none⟩]) .ret) .skip)) (.seq (.draw [(⟨(some 37), (.mov (.tmp 4)), none⟩, false), (⟨(some 38), (.cmp .gtr (.tmp 37) (.const (.int .i64 0))), none⟩, false), (⟨(some 39), (.mov (.tmp 38)), none⟩, false), (⟨(some 40), (.fieldAddr 0 (.tmp 5)), (some (39, true))⟩, false), (⟨(some 41), (.load (.tmp 40)), (some (39, true))⟩, false), (⟨(some 42), (.fieldAddr 0 (.tmp 1)), (some (39, true))⟩, false), (⟨(some 43), (.load (.tmp 42)), (some (39, true))⟩, false), (⟨(some 44), (.mov (.tmp 4)), (some (39, true))⟩, false), (⟨(some 45), (.arith .sub (.tmp 44) (.const (.int .i64 1))), (some (39, true))⟩, false), (⟨(some 46), (.idxAddr 2 (.tmp 43) (.tmp 45)), (some (39, true))⟩, false), (⟨(some 47), (.fieldAddr 0 (.tmp 46)), (some (39, true))⟩, false), (⟨(some 48), (.load (.tmp 47)), (some (39, true))⟩, false), (⟨(some 49), (.cmp .leq (.tmp 41) (.tmp 48)), (some (39, true))⟩, false), (⟨(some 50), (.mov (.tmp 49)), (some (39, true))⟩, false), (⟨(some 51), (.fieldAddr 1 (.tmp 5)), (some (50, false))⟩, false), (⟨(some 52), (.load (.tmp 51)), (some (50, false))⟩, false), (⟨(some 53), (.fieldAddr 0 (.tmp 1)), (some (50, false))⟩, false), (⟨(some 54), (.load (.tmp 53)), (some (50, false))⟩, false), (⟨(some 55), (.mov (.tmp 4)), (some (50, false))⟩, false), (⟨(some 56), (.arith .sub (.tmp 55) (.const (.int .i64 1))), (some (50, false))⟩, false), (⟨(some 57), (.idxAddr 2 (.tmp 54) (.tmp 56)), (some (50, false))⟩, false), (⟨(some 58), (.fieldAddr 1 (.tmp 57)), (some (50, false))⟩, false), (⟨(some 59), (.load (.tmp 58)), (some (50, false))⟩, false), (⟨(some 60), (.cmp .leq (.tmp 52) (.tmp 59)), (some (50, false))⟩, false), (⟨(some 61), (.pick (.tmp 50) (.const (.bool true)) (.tmp 60)), (some (39, true))⟩, false), (⟨(some 62), (.pick (.tmp 39) (.tmp 61) (.const (.bool false))), none⟩, false)]) (.cond (.tmp 62) (.seq (.ops [⟨(some 63), (.mov (.tmp 4)), none⟩, ⟨(some 2), (.mov (.tmp 63)), none⟩, ⟨(some 3), (.mov (.const (.int .i64 9))), none⟩]) .ret) .skip))))) (.ops [⟨(some 19), (.mov (.tmp 4)), none⟩, ⟨(some 20), (.arith .add (.tmp 19) (.const (.int .i64 1))), none⟩, ⟨(some 4), (.mov (.tmp 20)), none⟩])))))) (.seq (.ops [⟨(some 2), (.mov (.const (.int .i64 0))), none⟩, ⟨(some 3), (.mov (.const (.int .i64 0))), none⟩]) .ret))))), 64, [(.tmp 2), (.tmp 3)]⟩
theorem c36 : compileFn Go.Proofs.Tryz.prog Go.Proofs.Tryz.f36 = some R36 := by kernel_rfl
theorem n36 : R36.ntmps = 64 := rfl
theorem a36 {args : List Value} {H : AHeap} {Q : Value → AHeap → Prop} (h : AWP Go.Proofs.Tryz.prog none R36.code (Fin R36 Q) (args ++ List.replicate (R36.ntmps - args.length) undef) H) : ACall Go.Proofs.Tryz.prog 36 args H Q := acall_intro mo Go.Proofs.Tryz.func36 c36 h

def R37 : RFunc :=
  ⟨(.seq (.ops [⟨(some 4), (.mov (.const (.slice none 0 0))), none⟩]) (.seq (.ops [⟨(some 5), (.mov (.tmp 0)), none⟩, ⟨(some 6), (.mov (.tmp 1)), none⟩, ⟨(some 7), (.call (.func 70) [(.tmp 5), (.tmp 6), (.const (.int .i64 0)), (.const (.int .i64 (-1)))]), none⟩, ⟨(some 4), (.mov (.tmp 7)), none⟩]) .ret)), 8, [(.tmp 4)]⟩
theorem c37 : compileFn Go.Proofs.Tryz.prog Go.Proofs.Tryz.f37 = some R37 := by kernel_rfl
theorem a37 {args : List Value} {H : AHeap} {Q : Value → AHeap → Prop} (h : AWP Go.Proofs.Tryz.prog none R37.code (Fin R37 Q) (args ++ List.replicate (R37.ntmps - args.length) undef) H) : ACall Go.Proofs.Tryz.prog 37 args H Q := acall_intro mo Go.Proofs.Tryz.func37 c37 h

def R38 : RFunc :=
  ⟨(.seq (.ops [⟨(some 1), (.box (.tmp 0)), none⟩, ⟨(some 2), (.mov (.const (.int .i64 0))), none⟩]) (.seq (.draw [(⟨(some 3), (.fieldAddr 0 (.tmp 1)), none⟩, false), (⟨(some 4), (.load (.tmp 3)), none⟩, false), (⟨(some 5), (.call (.func 51) [(.tmp 4)]), none⟩, false), (⟨(some 6), (.mov (.tmp 5)), none⟩, false), (⟨(some 7), (.fieldAddr 1 (.tmp 1)), (some (6, true))⟩, false), (⟨(some 8), (.loadN 2 (.tmp 7)), (some (6, true))⟩, false), (⟨(some 9), (.call (.func 71) [(.tmp 8), (.func 72)]), (some (6, true))⟩, false), (⟨(some 10), (.pick (.tmp 6) (.tmp 9) (.const (.bool false))), none⟩, false), (⟨(some 11), (.call (.func 50) [(.tmp 10), (.const (.int .i64 2))]), none⟩, false), (⟨(some 12), (.fieldAddr 1 (.tmp 1)), none⟩, false), (⟨(some 13), (.fieldAddr 0 (.tmp 12)), none⟩, false), (⟨(some 14), (.load (.tmp 13)), none⟩, false), (⟨(some 15), (.fieldAddr 1 (.tmp 1)), none⟩, false), (⟨(some 16), (.fieldAddr 1 (.tmp 15)), none⟩, false), (⟨(some 17), (.load (.tmp 16)), none⟩, false), (⟨(some 18), (.cmp .leq (.tmp 14) (.tmp 17)), none⟩, false), (⟨(some 19), (.call (.func 50) [(.tmp 18), (.const (.int .i64 9))]), none⟩, false), (⟨(some 20), (.buildSlice 1 2 [(.int .i64 0), (.int .i64 0)] [(0, (1, (.tmp 11))), (1, (1, (.tmp 19)))]), none⟩, false), (⟨(some 21), (.call (.func 49) [(.tmp 20)]), none⟩, false), (⟨(some 2), (.mov (.tmp 21)), none⟩, false)]) .ret)), 22, [(.tmp 2)]⟩
theorem c38 : compileFn Go.Proofs.Tryz.prog Go.Proofs.Tryz.f38 = some R38 := by kernel_rfl
theorem n38 : R38.ntmps = 22 := rfl
theorem a38 {args : List Value} {H : AHeap} {Q : Value → AHeap → Prop} (h : AWP Go.Proofs.Tryz.prog none R38.code (Fin R38 Q) (args ++ List.replicate (R38.ntmps - args.length) undef) H) : ACall Go.Proofs.Tryz.prog 38 args H Q := acall_intro mo Go.Proofs.Tryz.func38 c38 h

def R39 : RFunc :=
  ⟨(.seq (.ops [⟨(some 2), (.mov (.const (.bool false))), none⟩]) (.seq (.ops [⟨(some 3), (.mov (.tmp 0)), none⟩, ⟨(some 4), (.call (.func 73) [(.tmp 3), (.const (.int .i64 0)), (.const (.int .i64 1000000))]), none⟩, ⟨(some 2), (.mov (.tmp 4)), none⟩]) .ret)), 5, [(.tmp 2)]⟩
theorem c39 : compileFn Go.Proofs.Tryz.prog Go.Proofs.Tryz.f39 = some R39 := by kernel_rfl
theorem n39 : R39.ntmps = 5 := rfl
theorem a39 {args : List Value} {H : AHeap} {Q : Value → AHeap → Prop} (h : AWP Go.Proofs.Tryz.prog none R39.code (Fin R39 Q) (args ++ List.replicate (R39.ntmps - args.length) undef) H) : ACall Go.Proofs.Tryz.prog 39 args H Q := acall_intro mo Go.Proofs.Tryz.func39 c39 h

def R40 : RFunc :=
  ⟨(.seq (.ops [⟨(some 2), (.mov (.const (.bool false))), none⟩]) (.seq (.ops [⟨(some 3), (.mov (.tmp 0)), none⟩, ⟨(some 4), (.call (.func 73) [(.tmp 3), (.const (.int .i64 0)), (.const (.int .i64 1000000000000))]), none⟩, ⟨(some 2), (.mov (.tmp 4)), none⟩]) .ret)), 5, [(.tmp 2)]⟩
theorem c40 : compileFn Go.Proofs.Tryz.prog Go.Proofs.Tryz.f40 = some R40 := by kernel_rfl
theorem n40 : R40.ntmps = 5 := rfl
theorem a40 {args : List Value} {H : AHeap} {Q : Value → AHeap → Prop} (h : AWP Go.Proofs.Tryz.prog none R40.code (Fin R40 Q) (args ++ List.replicate (R40.ntmps - args.length) undef) H) : ACall Go.Proofs.Tryz.prog 40 args H Q := acall_intro mo Go.Proofs.Tryz.func40 c40 h

def R41 : RFunc :=
  ⟨(.seq (.ops [⟨(some 2), (.box (.tmp 0)), none⟩, ⟨(some 3), (.box (.tmp 1)), none⟩, ⟨(some 4), (.new [(.int .i64 0), (.int .i64 0), (.int .i64 0), (.int .i64 0)]), none⟩, ⟨(some 5), (.new [(.bool false)]), none⟩]) (.seq (.seq (.ops [⟨(some 8), (.loadN 1 (.tmp 2)), none⟩, ⟨(some 9), (.call (.func 74) [(.tmp 8)]), none⟩]) (.block 0 (.rangeFunc (.tmp 9) [10, 11] (.ops [⟨(some 7), (.new [(.int .i64 0), (.int .i64 0), (.int .i64 0), (.int .i64 0)]), none⟩, ⟨none, (.store 4 (.tmp 7) (.tmp 11)), none⟩]) (.block 1 (.seq (.ops [⟨(some 12), (.load (.tmp 3)), none⟩, ⟨(some 13), (.loadN 4 (.tmp 7)), none⟩, ⟨(some 14), (.call (.tmp 12) [(.tmp 13)]), none⟩]) (.cond (.tmp 14) (.seq (.ops [⟨(some 15), (.loadN 4 (.tmp 7)), none⟩, ⟨none, (.store 4 (.tmp 4) (.tmp 15)), none⟩, ⟨none, (.store 1 (.tmp 5) (.const (.bool true))), none⟩]) .ret) .skip)))))) (.seq (.ops [⟨(some 16), (.build [(.int .i64 0), (.int .i64 0), (.int .i64 0), (.int .i64 0)] []), none⟩, ⟨none, (.store 4 (.tmp 4) (.tmp 16)), none⟩, ⟨none, (.store 1 (.tmp 5) (.const (.bool false))), none⟩]) .ret))), 17, [(.loadN 4 4), (.load 5)]⟩
theorem c41 : compileFn Go.Proofs.Tryz.prog Go.Proofs.Tryz.f41 = some R41 := by kernel_rfl
theorem n41 : R41.ntmps = 17 := rfl
theorem a41 {args : List Value} {H : AHeap} {Q : Value → AHeap → Prop} (h : AWP Go.Proofs.Tryz.prog none R41.code (Fin R41 Q) (args ++ List.replicate (R41.ntmps - args.length) undef) H) : ACall Go.Proofs.Tryz.prog 41 args H Q := acall_intro mo Go.Proofs.Tryz.func41 c41 h

def R42 : RFunc :=
  ⟨(.seq (.ops [⟨(some 2), (.box (.tmp 0)), none⟩, ⟨(some 3), (.mov (.const (.bool false))), none⟩]) (.seq (.ops [⟨(some 4), (.load (.tmp 1)), none⟩, ⟨(some 5), (.fieldAddr 0 (.tmp 2)), none⟩, ⟨(some 6), (.fieldAddr 1 (.tmp 5)), none⟩, ⟨(some 7), (.load (.tmp 6)), none⟩, ⟨(some 8), (.fieldAddr 2 (.tmp 2)), none⟩, ⟨(some 9), (.fieldAddr 1 (.tmp 8)), none⟩, ⟨(some 10), (.load (.tmp 9)), none⟩, ⟨(some 11), (.call (.func 43) [(.tmp 4), (.tmp 7), (.tmp 10)]), none⟩, ⟨(some 3), (.mov (.tmp 11)), none⟩]) .ret)), 12, [(.tmp 3)]⟩
theorem c42 : compileFn Go.Proofs.Tryz.prog Go.Proofs.Tryz.f42 = some R42 := by kernel_rfl
theorem n42 : R42.ntmps = 12 := rfl
theorem a42 {args : List Value} {H : AHeap} {Q : Value → AHeap → Prop} (h : AWP Go.Proofs.Tryz.prog none R42.code (Fin R42 Q) (args ++ List.replicate (R42.ntmps - args.length) undef) H) : ACall Go.Proofs.Tryz.prog 42 args H Q := acall_intro mo Go.Proofs.Tryz.func42 c42 h

def R43 : RFunc :=
  ⟨(.seq (.ops [⟨(some 6), (.mov (.const (.bool false))), none⟩]) (.seq (.ops [⟨(some 7), (.mov (.tmp 1)), none⟩, ⟨(some 8), (.mov (.tmp 0)), none⟩, ⟨(some 9), (.cmp .leq (.tmp 7) (.tmp 8)), none⟩, ⟨(some 10), (.mov (.tmp 9)), none⟩, ⟨(some 11), (.mov (.tmp 0)), (some (10, true))⟩, ⟨(some 12), (.mov (.tmp 2)), (some (10, true))⟩, ⟨(some 13), (.cmp .leq (.tmp 11) (.tmp 12)), (some (10, true))⟩, ⟨(some 14), (.pick (.tmp 10) (.tmp 13) (.const (.bool false))), none⟩, ⟨(some 6), (.mov (.tmp 14)), none⟩]) .ret)), 15, [(.tmp 6)]⟩
theorem c43 : compileFn Go.Proofs.Tryz.prog Go.Proofs.Tryz.f43 = some R43 := by kernel_rfl
theorem n43 : R43.ntmps = 15 := rfl
theorem a43 {args : List Value} {H : AHeap} {Q : Value → AHeap → Prop} (h : AWP Go.Proofs.Tryz.prog none R43.code (Fin R43 Q) (args ++ List.replicate (R43.ntmps - args.length) undef) H) : ACall Go.Proofs.Tryz.prog 43 args H Q := acall_intro mo Go.Proofs.Tryz.func43 c43 h

def R44 : RFunc :=
  ⟨(.seq (.ops [⟨(some 4), (.mov (.const (.int .u64 0))), none⟩, ⟨(some 5), (.mov (.const (.int .u64 0))), none⟩]) (.seq (.ops [⟨(some 14), (.mov (.tmp 0)), none⟩, ⟨(some 15), (.band (.tmp 14) (.const (.int .u64 4294967295))), none⟩, ⟨(some 6), (.mov (.tmp 15)), none⟩]) (.seq (.ops [⟨(some 16), (.mov (.tmp 0)), none⟩, ⟨(some 17), (.shr (.tmp 16) (.const (.int .u64 32))), none⟩, ⟨(some 7), (.mov (.tmp 17)), none⟩]) (.seq (.ops [⟨(some 18), (.mov (.tmp 1)), none⟩, ⟨(some 19), (.band (.tmp 18) (.const (.int .u64 4294967295))), none⟩, ⟨(some 8), (.mov (.tmp 19)), none⟩]) (.seq (.ops [⟨(some 20), (.mov (.tmp 1)), none⟩, ⟨(some 21), (.shr (.tmp 20) (.const (.int .u64 32))), none⟩, ⟨(some 9), (.mov (.tmp 21)), none⟩]) (.seq (.ops [⟨(some 22), (.mov (.tmp 6)), none⟩, ⟨(some 23), (.mov (.tmp 8)), none⟩, ⟨(some 24), (.arith .mul (.tmp 22) (.tmp 23)), none⟩, ⟨(some 10), (.mov (.tmp 24)), none⟩]) (.seq (.ops [⟨(some 25), (.mov (.tmp 7)), none⟩, ⟨(some 26), (.mov (.tmp 8)), none⟩, ⟨(some 27), (.arith .mul (.tmp 25) (.tmp 26)), none⟩, ⟨(some 28), (.mov (.tmp 10)), none⟩, ⟨(some 29), (.shr (.tmp 28) (.const (.int .u64 32))), none⟩, ⟨(some 30), (.arith .add (.tmp 27) (.tmp 29)), none⟩, ⟨(some 11), (.mov (.tmp 30)), none⟩]) (.seq (.ops [⟨(some 31), (.mov (.tmp 11)), none⟩, ⟨(some 32), (.band (.tmp 31) (.const (.int .u64 4294967295))), none⟩, ⟨(some 12), (.mov (.tmp 32)), none⟩]) (.seq (.ops [⟨(some 33), (.mov (.tmp 11)), none⟩, ⟨(some 34), (.shr (.tmp 33) (.const (.int .u64 32))), none⟩, ⟨(some 13), (.mov (.tmp 34)), none⟩]) (.seq (.ops [⟨(some 35), (.mov (.tmp 12)), none⟩, ⟨(some 36), (.mov (.tmp 6)), none⟩, ⟨(some 37), (.mov (.tmp 9)), none⟩, ⟨(some 38), (.arith .mul (.tmp 36) (.tmp 37)), none⟩, ⟨(some 39), (.arith .add (.tmp 35) (.tmp 38)), none⟩, ⟨(some 12), (.mov (.tmp 39)), none⟩]) (.seq (.ops [⟨(some 40), (.mov (.tmp 7)), none⟩, ⟨(some 41), (.mov (.tmp 9)), none⟩, ⟨(some 42), (.arith .mul (.tmp 40) (.tmp 41)), none⟩, ⟨(some 43), (.mov (.tmp 13)), none⟩, ⟨(some 44), (.arith .add (.tmp 42) (.tmp 43)), none⟩, ⟨(some 45), (.mov (.tmp 12)), none⟩, ⟨(some 46), (.shr (.tmp 45) (.const (.int .u64 32))), none⟩, ⟨(some 47), (.arith .add (.tmp 44) (.tmp 46)), none⟩, ⟨(some 4), (.mov (.tmp 47)), none⟩]) (.seq (.ops [⟨(some 48), (.mov (.tmp 0)), none⟩, ⟨(some 49), (.mov (.tmp 1)), none⟩, ⟨(some 50), (.arith .mul (.tmp 48) (.tmp 49)), none⟩, ⟨(some 5), (.mov (.tmp 50)), none⟩]) .ret)))))))))))), 51, [(.tmp 4), (.tmp 5)]⟩
theorem c44 : compileFn Go.Proofs.Tryz.prog Go.Proofs.Tryz.f44 = some R44 := by kernel_rfl
theorem n44 : R44.ntmps = 51 := rfl
theorem a44 {args : List Value} {H : AHeap} {Q : Value → AHeap → Prop} (h : AWP Go.Proofs.Tryz.prog none R44.code (Fin R44 Q) (args ++ List.replicate (R44.ntmps - args.length) undef) H) : ACall Go.Proofs.Tryz.prog 44 args H Q := acall_intro mo Go.Proofs.Tryz.func44 c44 h

def R45 : RFunc :=
  ⟨(.seq (.ops [⟨(some 1), (.box (.tmp 0)), none⟩, ⟨(some 2), (.mov (.const (.int .i64 0))), none⟩]) (.seq (.ops [⟨(some 3), (.fieldAddr 2 (.tmp 1)), none⟩, ⟨(some 4), (.fieldAddr 0 (.tmp 3)), none⟩, ⟨(some 5), (.load (.tmp 4)), none⟩, ⟨(some 6), (.fieldAddr 0 (.tmp 1)), none⟩, ⟨(some 7), (.fieldAddr 0 (.tmp 6)), none⟩, ⟨(some 8), (.load (.tmp 7)), none⟩, ⟨(some 9), (.arith .sub (.tmp 5) (.tmp 8)), none⟩, ⟨(some 2), (.mov (.tmp 9)), none⟩]) .ret)), 10, [(.tmp 2)]⟩
theorem c45 : compileFn Go.Proofs.Tryz.prog Go.Proofs.Tryz.f45 = some R45 := by kernel_rfl
theorem n45 : R45.ntmps = 10 := rfl
theorem a45 {args : List Value} {H : AHeap} {Q : Value → AHeap → Prop} (h : AWP Go.Proofs.Tryz.prog none R45.code (Fin R45 Q) (args ++ List.replicate (R45.ntmps - args.length) undef) H) : ACall Go.Proofs.Tryz.prog 45 args H Q := acall_intro mo Go.Proofs.Tryz.func45 c45 h

def R46 : RFunc :=
  ⟨(.seq (.ops [⟨(some 6), (.mov (.const (.int .u64 0))), none⟩, ⟨(some 7), (.mov (.const (.int .u64 0))), none⟩]) (.seq (.seq (.ops [⟨(some 19), (.mov (.tmp 2)), none⟩, ⟨(some 20), (.cmp .eql (.tmp 19) (.const (.int .u64 0))), none⟩]) (.cond (.tmp 20) (.ops [⟨(some 21), (.load (.global 0)), none⟩, ⟨none, (.extract (.const (.chan none)) 0), none⟩]) .skip)) (.seq (.seq (.ops [⟨(some 22), (.mov (.tmp 2)), none⟩, ⟨(some 23), (.mov (.tmp 0)), none⟩, ⟨(some 24), (.cmp .leq (.tmp 22) (.tmp 23)), none⟩]) (.cond (.tmp 24) (.ops [⟨(some 25), (.load (.global 1)), none⟩, ⟨none, (.extract (.const (.chan none)) 0), none⟩]) .skip)) (.seq (.seq (.ops [⟨(some 26), (.mov (.tmp 0)), none⟩, ⟨(some 27), (.cmp .eql (.tmp 26) (.const (.int .u64 0))), none⟩]) (.cond (.tmp 27) (.seq (.draw [(⟨(some 28), (.mov (.tmp 1)), none⟩, false), (⟨(some 29), (.mov (.tmp 2)), none⟩, false), (⟨(some 30), (.arith .quo (.tmp 28) (.tmp 29)), none⟩, false), (⟨(some 31), (.mov (.tmp 1)), none⟩, false), (⟨(some 32), (.mov (.tmp 2)), none⟩, false), (⟨(some 33), (.arith .rem (.tmp 31) (.tmp 32)), none⟩, false), (⟨(some 6), (.mov (.tmp 30)), none⟩, false), (⟨(some 7), (.mov (.tmp 33)), none⟩, false)]) .ret) .skip)) (.seq (.ops [⟨(some 34), (.mov (.tmp 2)), none⟩, ⟨(some 35), (.call (.func 75) [(.tmp 34)]), none⟩, ⟨(some 36), (.conv .u64 (.tmp 35)), none⟩, ⟨(some 8), (.mov (.tmp 36)), none⟩]) (.seq (.ops [⟨(some 37), (.mov (.tmp 2)), none⟩, ⟨(some 38), (.mov (.tmp 8)), none⟩, ⟨(some 39), (.shl (.tmp 37) (.tmp 38)), none⟩, ⟨(some 2), (.mov (.tmp 39)), none⟩]) (.seq (.ops [⟨(some 40), (.mov (.tmp 2)), none⟩, ⟨(some 41), (.shr (.tmp 40) (.const (.int .u64 32))), none⟩, ⟨(some 9), (.mov (.tmp 41)), none⟩]) (.seq (.ops [⟨(some 42), (.mov (.tmp 2)), none⟩, ⟨(some 43), (.band (.tmp 42) (.const (.int .u64 4294967295))), none⟩, ⟨(some 10), (.mov (.tmp 43)), none⟩]) (.seq (.ops [⟨(some 44), (.mov (.tmp 0)), none⟩, ⟨(some 45), (.mov (.tmp 8)), none⟩, ⟨(some 46), (.shl (.tmp 44) (.tmp 45)), none⟩, ⟨(some 47), (.mov (.tmp 1)), none⟩, ⟨(some 48), (.mov (.tmp 8)), none⟩, ⟨(some 49), (.arith .sub (.const (.int .u64 64)) (.tmp 48)), none⟩, ⟨(some 50), (.shr (.tmp 47) (.tmp 49)), none⟩, ⟨(some 51), (.bor (.tmp 46) (.tmp 50)), none⟩, ⟨(some 11), (.mov (.tmp 51)), none⟩]) (.seq (.ops [⟨(some 52), (.mov (.tmp 1)), none⟩, ⟨(some 53), (.mov (.tmp 8)), none⟩, ⟨(some 54), (.shl (.tmp 52) (.tmp 53)), none⟩, ⟨(some 12), (.mov (.tmp 54)), none⟩]) (.seq (.ops [⟨(some 55), (.mov (.tmp 12)), none⟩, ⟨(some 56), (.shr (.tmp 55) (.const (.int .u64 32))), none⟩, ⟨(some 13), (.mov (.tmp 56)), none⟩]) (.seq (.ops [⟨(some 57), (.mov (.tmp 12)), none⟩, ⟨(some 58), (.band (.tmp 57) (.const (.int .u64 4294967295))), none⟩, ⟨(some 14), (.mov (.tmp 58)), none⟩]) (.seq (.ops [⟨(some 59), (.mov (.tmp 11)), none⟩, ⟨(some 60), (.mov (.tmp 9)), none⟩, ⟨(some 61), (.arith .quo (.tmp 59) (.tmp 60)), none⟩, ⟨(some 15), (.mov (.tmp 61)), none⟩]) (.seq (.ops [⟨(some 62), (.mov (.tmp 11)), none⟩, ⟨(some 63), (.mov (.tmp 15)), none⟩, ⟨(some 64), (.mov (.tmp 9)), none⟩, ⟨(some 65), (.arith .mul (.tmp 63) (.tmp 64)), none⟩, ⟨(some 66), (.arith .sub (.tmp 62) (.tmp 65)), none⟩, ⟨(some 16), (.mov (.tmp 66)), none⟩]) (.seq (.block 0 (.loop (.seq (.seq (.ops [⟨(some 67), (.mov (.tmp 15)), none⟩, ⟨(some 68), (.cmp .geq (.tmp 67) (.const (.int .u64 4294967296))), none⟩, ⟨(some 69), (.mov (.tmp 68)), none⟩, ⟨(some 70), (.mov (.tmp 15)), (some (69, false))⟩, ⟨(some 71), (.mov (.tmp 10)), (some (69, false))⟩, ⟨(some 72), (.arith .mul (.tmp 70) (.tmp 71)), (some (69, false))⟩, ⟨(some 73), (.mov (.tmp 16)), (some (69, false))⟩, ⟨(some 74), (.arith .mul (.const (.int .u64 4294967296)) (.tmp 73)), (some (69, false))⟩, ⟨(some 75), (.mov (.tmp 13)), (some (69, false))⟩, ⟨(some 76), (.arith .add (.tmp 74) (.tmp 75)), (some (69, false))⟩, ⟨(some 77), (.cmp .gtr (.tmp 72) (.tmp 76)), (some (69, false))⟩, ⟨(some 78), (.pick (.tmp 69) (.const (.bool true)) (.tmp 77)), none⟩]) (.cond (.tmp 78) .skip (.exit 0))) (.block 1 (.seq (.ops [⟨(some 79), (.mov (.tmp 15)), none⟩, ⟨(some 80), (.arith .sub (.tmp 79) (.const (.int .u64 1))), none⟩, ⟨(some 15), (.mov (.tmp 80)), none⟩]) (.seq (.ops [⟨(some 81), (.mov (.tmp 16)), none⟩, ⟨(some 82), (.mov (.tmp 9)), none⟩, ⟨(some 83), (.arith .add (.tmp 81) (.tmp 82)), none⟩, ⟨(some 16), (.mov (.tmp 83)), none⟩]) (.seq (.ops [⟨(some 84), (.mov (.tmp 16)), none⟩, ⟨(some 85), (.cmp .geq (.tmp 84) (.const (.int .u64 4294967296))), none⟩]) (.cond (.tmp 85) (.exit 0) .skip)))))))) (.seq (.ops [⟨(some 86), (.mov (.tmp 11)), none⟩, ⟨(some 87), (.arith .mul (.tmp 86) (.const (.int .u64 4294967296))), none⟩, ⟨(some 88), (.mov (.tmp 13)), none⟩, ⟨(some 89), (.arith .add (.tmp 87) (.tmp 88)), none⟩, ⟨(some 90), (.mov (.tmp 15)), none⟩, ⟨(some 91), (.mov (.tmp 2)), none⟩, ⟨(some 92), (.arith .mul (.tmp 90) (.tmp 91)), none⟩, ⟨(some 93), (.arith .sub (.tmp 89) (.tmp 92)), none⟩, ⟨(some 17), (.mov (.tmp 93)), none⟩]) (.seq (.ops [⟨(some 94), (.mov (.tmp 17)), none⟩, ⟨(some 95), (.mov (.tmp 9)), none⟩, ⟨(some 96), (.arith .quo (.tmp 94) (.tmp 95)), none⟩, ⟨(some 18), (.mov (.tmp 96)), none⟩]) (.seq (.ops [⟨(some 97), (.mov (.tmp 17)), none⟩, ⟨(some 98), (.mov (.tmp 18)), none⟩, ⟨(some 99), (.mov (.tmp 9)), none⟩, ⟨(some 100), (.arith .mul (.tmp 98) (.tmp 99)), none⟩, ⟨(some 101), (.arith .sub (.tmp 97) (.tmp 100)), none⟩, ⟨(some 16), (.mov (.tmp 101)), none⟩]) (.seq (.block 2 (.loop (.seq (.seq (.ops [⟨(some 102), (.mov (.tmp 18)), none⟩, ⟨(some 103), (.cmp .geq (.tmp 102) (.const (.int .u64 4294967296))), none⟩, ⟨(some 104), (.mov (.tmp 103)), none⟩, ⟨(some 105), (.mov (.tmp 18)), (some (104, false))⟩, ⟨(some 106), (.mov (.tmp 10)), (some (104, false))⟩, ⟨(some 107), (.arith .mul (.tmp 105) (.tmp 106)), (some (104, false))⟩, ⟨(some 108), (.mov (.tmp 16)), (some (104, false))⟩, ⟨(some 109), (.arith .mul (.const (.int .u64 4294967296)) (.tmp 108)), (some (104, false))⟩, ⟨(some 110), (.mov (.tmp 14)), (some (104, false))⟩, ⟨(some 111), (.arith .add (.tmp 109) (.tmp 110)), (some (104, false))⟩, ⟨(some 112), (.cmp .gtr (.tmp 107) (.tmp 111)), (some (104, false))⟩, ⟨(some 113), (.pick (.tmp 104) (.const (.bool true)) (.tmp 112)), none⟩]) (.cond (.tmp 113) .skip (.exit 2))) (.block 3 (.seq (.ops [⟨(some 114), (.mov (.tmp 18)), none⟩, ⟨(some 115), (.arith .sub (.tmp 114) (.const (.int .u64 1))), none⟩, ⟨(some 18), (.mov (.tmp 115)), none⟩]) (.seq (.ops [⟨(some 116), (.mov (.tmp 16)), none⟩, ⟨(some 117), (.mov (.tmp 9)), none⟩, ⟨(some 118), (.arith .add (.tmp 116) (.tmp 117)), none⟩, ⟨(some 16), (.mov (.tmp 118)), none⟩]) (.seq (.ops [⟨(some 119), (.mov (.tmp 16)), none⟩, ⟨(some 120), (.cmp .geq (.tmp 119) (.const (.int .u64 4294967296))), none⟩]) (.cond (.tmp 120) (.exit 2) .skip)))))))) (.seq (.ops [⟨(some 121), (.mov (.tmp 15)), none⟩, ⟨(some 122), (.arith .mul (.tmp 121) (.const (.int .u64 4294967296))), none⟩, ⟨(some 123), (.mov (.tmp 18)), none⟩, ⟨(some 124), (.arith .add (.tmp 122) (.tmp 123)), none⟩, ⟨(some 125), (.mov (.tmp 17)), none⟩, ⟨(some 126), (.arith .mul (.tmp 125) (.const (.int .u64 4294967296))), none⟩, ⟨(some 127), (.mov (.tmp 14)), none⟩, ⟨(some 128), (.arith .add (.tmp 126) (.tmp 127)), none⟩, ⟨(some 129), (.mov (.tmp 18)), none⟩, ⟨(some 130), (.mov (.tmp 2)), none⟩, ⟨(some 131), (.arith .mul (.tmp 129) (.tmp 130)), none⟩, ⟨(some 132), (.arith .sub (.tmp 128) (.tmp 131)), none⟩, ⟨(some 133), (.mov (.tmp 8)), none⟩, ⟨(some 134), (.shr (.tmp 132) (.tmp 133)), none⟩, ⟨(some 6), (.mov (.tmp 124)), none⟩, ⟨(some 7), (.mov (.tmp 134)), none⟩]) .ret)))))))))))))))))))), 135, [(.tmp 6), (.tmp 7)]⟩
theorem c46 : compileFn Go.Proofs.Tryz.prog Go.Proofs.Tryz.f46 = some R46 := by kernel_rfl
theorem n46 : R46.ntmps = 135 := rfl
theorem a46 {args : List Value} {H : AHeap} {Q : Value → AHeap → Prop} (h : AWP Go.Proofs.Tryz.prog none R46.code (Fin R46 Q) (args ++ List.replicate (R46.ntmps - args.length) undef) H) : ACall Go.Proofs.Tryz.prog 46 args H Q := acall_intro mo Go.Proofs.Tryz.func46 c46 h

def R47 : RFunc :=
  ⟨(.seq (.ops [⟨(some 1), (.box (.tmp 0)), none⟩, ⟨(some 2), (.mov (.const (.int .i64 0))), none⟩]) (.seq (.ops [⟨(some 3), (.fieldAddr 2 (.tmp 1)), none⟩, ⟨(some 4), (.fieldAddr 1 (.tmp 3)), none⟩, ⟨(some 5), (.load (.tmp 4)), none⟩, ⟨(some 6), (.fieldAddr 0 (.tmp 1)), none⟩, ⟨(some 7), (.fieldAddr 1 (.tmp 6)), none⟩, ⟨(some 8), (.load (.tmp 7)), none⟩, ⟨(some 9), (.arith .sub (.tmp 5) (.tmp 8)), none⟩, ⟨(some 2), (.mov (.tmp 9)), none⟩]) .ret)), 10, [(.tmp 2)]⟩
theorem c47 : compileFn Go.Proofs.Tryz.prog Go.Proofs.Tryz.f47 = some R47 := by kernel_rfl
theorem n47 : R47.ntmps = 10 := rfl
theorem a47 {args : List Value} {H : AHeap} {Q : Value → AHeap → Prop} (h : AWP Go.Proofs.Tryz.prog none R47.code (Fin R47 Q) (args ++ List.replicate (R47.ntmps - args.length) undef) H) : ACall Go.Proofs.Tryz.prog 47 args H Q := acall_intro mo Go.Proofs.Tryz.func47 c47 h

def R48 : RFunc :=
  ⟨(.seq (.ops [⟨(some 1), (.box (.tmp 0)), none⟩, ⟨(some 2), (.new [(.int .i64 0), (.int .i64 0), (.slice none 0 0)]), none⟩, ⟨(some 3), (.mov (.const (.int .i64 0))), none⟩]) (.seq (.ops [⟨(some 7), (.loadN 3 (.tmp 1)), none⟩, ⟨(some 8), (.call (.func 76) [(.tmp 7)]), none⟩, ⟨(some 6), (.mov (.tmp 8)), none⟩, ⟨(some 9), (.extract (.tmp 6) 0), none⟩, ⟨(some 10), (.extract (.tmp 6) 1), none⟩, ⟨(some 4), (.mov (.tmp 9)), none⟩, ⟨(some 5), (.mov (.tmp 10)), none⟩]) (.seq (.ops [⟨(some 11), (.loadN 3 (.tmp 1)), none⟩, ⟨(some 12), (.build [(.int .i64 0), (.int .i64 0), (.slice none 0 0)] [(0, (3, (.tmp 11)))]), none⟩, ⟨(some 13), (.mov (.tmp 5)), none⟩, ⟨none, (.store 3 (.tmp 2) (.tmp 12)), none⟩, ⟨(some 3), (.mov (.tmp 13)), none⟩]) .ret))), 14, [(.loadN 3 2), (.tmp 3)]⟩
theorem c48 : compileFn Go.Proofs.Tryz.prog Go.Proofs.Tryz.f48 = some R48 := by kernel_rfl
theorem n48 : R48.ntmps = 14 := rfl
theorem a48 {args : List Value} {H : AHeap} {Q : Value → AHeap → Prop} (h : AWP Go.Proofs.Tryz.prog none R48.code (Fin R48 Q) (args ++ List.replicate (R48.ntmps - args.length) undef) H) : ACall Go.Proofs.Tryz.prog 48 args H Q := acall_intro mo Go.Proofs.Tryz.func48 c48 h

def R49 : RFunc :=
  ⟨(.seq (.ops [⟨(some 2), (.mov (.const (.int .i64 0))), none⟩]) (.seq (.seq (.ops [⟨(some 5), (.mov (.tmp 0)), none⟩, ⟨(some 6), (.len (.tmp 5)), none⟩, ⟨(some 7), (.mov (.const (.int .i64 0))), none⟩]) (.block 0 (.loop (.seq (.ops [⟨(some 8), (.cmp .lss (.tmp 7) (.tmp 6)), none⟩]) (.seq (.cond (.tmp 8) .skip (.exit 0)) (.seq (.block 1 (.seq (.ops [⟨(some 9), (.idxAddr 1 (.tmp 5) (.tmp 7)), none⟩, ⟨(some 10), (.load (.tmp 9)), none⟩, ⟨(some 4), (.mov (.tmp 10)), none⟩]) (.seq (.ops [⟨(some 11), (.mov (.tmp 4)), none⟩, ⟨(some 12), (.cmp .neq (.tmp 11) (.const (.int .i64 0))), none⟩]) (.cond (.tmp 12) (.seq (.ops [⟨(some 13), (.mov (.tmp 4)), none⟩, ⟨(some 2), (.mov (.tmp 13)), none⟩]) .ret) .skip)))) (.ops [⟨(some 14), (.arith .add (.tmp 7) (.const (.int .i64 1))), none⟩, ⟨(some 7), (.mov (.tmp 14)), none⟩]))))))) (.seq (.ops [⟨(some 2), (.mov (.const (.int .i64 0))), none⟩]) .ret))), 15, [(.tmp 2)]⟩
theorem c49 : compileFn Go.Proofs.Tryz.prog Go.Proofs.Tryz.f49 = some R49 := by kernel_rfl
theorem n49 : R49.ntmps = 15 := rfl
theorem a49 {args : List Value} {H : AHeap} {Q : Value → AHeap → Prop} (h : AWP Go.Proofs.Tryz.prog none R49.code (Fin R49 Q) (args ++ List.replicate (R49.ntmps - args.length) undef) H) : ACall Go.Proofs.Tryz.prog 49 args H Q := acall_intro mo Go.Proofs.Tryz.func49 c49 h

def R50 : RFunc :=
  ⟨(.seq (.ops [⟨(some 4), (.mov (.const (.int .i64 0))), none⟩]) (.seq (.seq (.ops [⟨(some 5), (.mov (.tmp 0)), none⟩]) (.cond (.tmp 5) (.seq (.ops [⟨(some 4), (.mov (.const (.int .i64 0))), none⟩]) .ret) .skip)) (.seq (.ops [⟨(some 6), (.mov (.tmp 1)), none⟩, ⟨(some 4), (.mov (.tmp 6)), none⟩]) .ret))), 7, [(.tmp 4)]⟩
theorem c50 : compileFn Go.Proofs.Tryz.prog Go.Proofs.Tryz.f50 = some R50 := by kernel_rfl
theorem n50 : R50.ntmps = 7 := rfl
theorem a50 {args : List Value} {H : AHeap} {Q : Value → AHeap → Prop} (h : AWP Go.Proofs.Tryz.prog none R50.code (Fin R50 Q) (args ++ List.replicate (R50.ntmps - args.length) undef) H) : ACall Go.Proofs.Tryz.prog 50 args H Q := acall_intro mo Go.Proofs.Tryz.func50 c50 h

def R51 : RFunc :=
  ⟨(.seq (.ops [⟨(some 2), (.mov (.const (.bool false))), none⟩]) (.seq (.ops [⟨(some 3), (.mov (.tmp 0)), none⟩, ⟨(some 4), (.call (.func 43) [(.tmp 3), (.const (.int .i64 0)), (.const (.int .i64 1000000))]), none⟩, ⟨(some 2), (.mov (.tmp 4)), none⟩]) .ret)), 5, [(.tmp 2)]⟩
theorem c51 : compileFn Go.Proofs.Tryz.prog Go.Proofs.Tryz.f51 = some R51 := by kernel_rfl
theorem n51 : R51.ntmps = 5 := rfl
theorem a51 {args : List Value} {H : AHeap} {Q : Value → AHeap → Prop} (h : AWP Go.Proofs.Tryz.prog none R51.code (Fin R51 Q) (args ++ List.replicate (R51.ntmps - args.length) undef) H) : ACall Go.Proofs.Tryz.prog 51 args H Q := acall_intro mo Go.Proofs.Tryz.func51 c51 h

def R52 : RFunc :=
  ⟨(.seq (.ops [⟨(some 1), (.box (.tmp 0)), none⟩, ⟨(some 2), (.new [(.bool false)]), none⟩]) (.seq (.seq (.ops [⟨(some 3), (.loadN 3 (.tmp 1)), none⟩, ⟨(some 4), (.mkFunc (.func 77) [(.tmp 3)] []), none⟩]) (.block 0 (.rangeFunc (.tmp 4) [5, 6] .skip (.block 1 (.seq (.ops [⟨none, (.store 1 (.tmp 2) (.const (.bool false))), none⟩]) .ret))))) (.seq (.ops [⟨none, (.store 1 (.tmp 2) (.const (.bool true))), none⟩]) .ret))), 7, [(.load 2)]⟩
theorem c52 : compileFn Go.Proofs.Tryz.prog Go.Proofs.Tryz.f52 = some R52 := by kernel_rfl
theorem n52 : R52.ntmps = 7 := rfl
theorem a52 {args : List Value} {H : AHeap} {Q : Value → AHeap → Prop} (h : AWP Go.Proofs.Tryz.prog none R52.code (Fin R52 Q) (args ++ List.replicate (R52.ntmps - args.length) undef) H) : ACall Go.Proofs.Tryz.prog 52 args H Q := acall_intro mo Go.Proofs.Tryz.func52 c52 h

def R53 : RFunc :=
  ⟨(.seq (.ops [⟨(some 2), (.box (.tmp 0)), none⟩, ⟨(some 4), (.new [(.int .i64 0), (.int .i64 0)]), none⟩]) (.seq (.drawF [(5, (2, (.tmp 16)))] [(⟨(some 9), (.loadN 3 (.tmp 2)), none⟩, false), (⟨(some 10), (.fieldAddr 0 (.tmp 2)), none⟩, false), (⟨(some 11), (.fieldAddr 2 (.tmp 10)), none⟩, false), (⟨(some 12), (.load (.tmp 11)), none⟩, false), (⟨(some 13), (.idxAddr 3 (.tmp 12) (.const (.int .i64 0))), none⟩, false), (⟨(some 14), (.loadN 3 (.tmp 13)), none⟩, false), (⟨(some 15), (.mov (.tmp 1)), none⟩, false), (⟨(some 16), (.call (.func 78) [(.tmp 9), (.tmp 14), (.tmp 15)]), none⟩, false), (⟨none, (.mov (.const (.bool false))), none⟩, false), (⟨none, (.mov (.const (.bool false))), none⟩, false)]) (.seq (.seq (.ops [⟨(some 17), (.fieldAddr 0 (.tmp 2)), none⟩, ⟨(some 18), (.fieldAddr 2 (.tmp 17)), none⟩, ⟨(some 19), (.load (.tmp 18)), none⟩, ⟨(some 20), (.slice 3 (.tmp 19) (some (.const (.int .i64 1))) none none), none⟩, ⟨(some 21), (.len (.tmp 20)), none⟩, ⟨(some 22), (.mov (.const (.int .i64 0))), none⟩]) (.block 0 (.loop (.seq (.ops [⟨(some 23), (.cmp .lss (.tmp 22) (.tmp 21)), none⟩]) (.seq (.cond (.tmp 23) .skip (.exit 0)) (.seq (.block 1 (.seq (.ops [⟨(some 24), (.idxAddr 3 (.tmp 20) (.tmp 22)), none⟩, ⟨(some 25), (.loadN 3 (.tmp 24)), none⟩, ⟨(some 7), (.new [(.int .i64 0), (.int .i64 0), (.int .i64 0)]), none⟩, ⟨none, (.store 3 (.tmp 7) (.tmp 25)), none⟩]) (.seq (.ops [⟨(some 26), (.loadN 3 (.tmp 2)), none⟩, ⟨(some 27), (.loadN 3 (.tmp 7)), none⟩, ⟨(some 28), (.mov (.tmp 1)), none⟩, ⟨(some 29), (.call (.func 78) [(.tmp 26), (.tmp 27), (.tmp 28)]), none⟩, ⟨(some 8), (.new [(.int .i64 0), (.int .i64 0)]), none⟩, ⟨none, (.store 2 (.tmp 8) (.tmp 29)), none⟩]) (.ops [⟨(some 30), (.fieldAddr 0 (.tmp 5)), none⟩, ⟨(some 31), (.load (.tmp 30)), none⟩, ⟨(some 32), (.fieldAddr 0 (.tmp 8)), none⟩, ⟨(some 33), (.load (.tmp 32)), none⟩, ⟨(some 34), (.most true (.tmp 31) [(.tmp 33)]), none⟩, ⟨(some 35), (.fieldAddr 1 (.tmp 5)), none⟩, ⟨(some 36), (.load (.tmp 35)), none⟩, ⟨(some 37), (.fieldAddr 1 (.tmp 8)), none⟩, ⟨(some 38), (.load (.tmp 37)), none⟩, ⟨(some 39), (.most false (.tmp 36) [(.tmp 38)]), none⟩, ⟨(some 40), (.build [(.int .i64 0), (.int .i64 0)] [(0, (1, (.tmp 34))), (1, (1, (.tmp 39)))]), none⟩, ⟨none, (.store 2 (.tmp 5) (.tmp 40)), none⟩])))) (.ops [⟨(some 41), (.arith .add (.tmp 22) (.const (.int .i64 1))), none⟩, ⟨(some 22), (.mov (.tmp 41)), none⟩]))))))) (.seq (.ops [⟨(some 42), (.loadN 2 (.tmp 5)), none⟩, ⟨none, (.store 2 (.tmp 4) (.tmp 42)), none⟩]) .ret)))), 43, [(.loadN 2 4)]⟩
theorem c53 : compileFn Go.Proofs.Tryz.prog Go.Proofs.Tryz.f53 = some R53 := by kernel_rfl
theorem n53 : R53.ntmps = 43 := rfl
theorem a53 {args : List Value} {H : AHeap} {Q : Value → AHeap → Prop} (h : AWP Go.Proofs.Tryz.prog none R53.code (Fin R53 Q) (args ++ List.replicate (R53.ntmps - args.length) undef) H) : ACall Go.Proofs.Tryz.prog 53 args H Q := acall_intro mo Go.Proofs.Tryz.func53 c53 h

def R54 : RFunc :=
  ⟨(.seq (.ops [⟨(some 1), (.box (.tmp 0)), none⟩, ⟨(some 2), (.mov (.const (.bool false))), none⟩]) (.seq (.ops [⟨(some 3), (.fieldAddr 1 (.tmp 1)), none⟩, ⟨(some 4), (.fieldAddr 1 (.tmp 3)), none⟩, ⟨(some 5), (.load (.tmp 4)), none⟩, ⟨(some 6), (.fieldAddr 1 (.tmp 1)), none⟩, ⟨(some 7), (.fieldAddr 0 (.tmp 6)), none⟩, ⟨(some 8), (.load (.tmp 7)), none⟩, ⟨(some 9), (.arith .sub (.tmp 5) (.tmp 8)), none⟩, ⟨(some 10), (.cmp .geq (.tmp 9) (.const (.int .i64 40))), none⟩, ⟨(some 2), (.mov (.tmp 10)), none⟩]) .ret)), 11, [(.tmp 2)]⟩
theorem c54 : compileFn Go.Proofs.Tryz.prog Go.Proofs.Tryz.f54 = some R54 := by kernel_rfl
theorem n54 : R54.ntmps = 11 := rfl
theorem a54 {args : List Value} {H : AHeap} {Q : Value → AHeap → Prop} (h : AWP Go.Proofs.Tryz.prog none R54.code (Fin R54 Q) (args ++ List.replicate (R54.ntmps - args.length) undef) H) : ACall Go.Proofs.Tryz.prog 54 args H Q := acall_intro mo Go.Proofs.Tryz.func54 c54 h

def R55 : RFunc :=
  ⟨(.seq (.ops [⟨(some 4), (.mov (.const (.bool false))), none⟩]) (.seq (.ops [⟨(some 5), (.mov (.tmp 0)), none⟩, ⟨(some 6), (.mov (.tmp 1)), none⟩, ⟨(some 7), (.call (.func 79) [(.tmp 5), (.tmp 6)]), none⟩, ⟨(some 8), (.cmp .geq (.tmp 7) (.const (.int .i64 0))), none⟩, ⟨(some 4), (.mov (.tmp 8)), none⟩]) .ret)), 9, [(.tmp 4)]⟩
theorem c55 : compileFn Go.Proofs.Tryz.prog Go.Proofs.Tryz.f55 = some R55 := by kernel_rfl
theorem n55 : R55.ntmps = 9 := rfl
theorem a55 {args : List Value} {H : AHeap} {Q : Value → AHeap → Prop} (h : AWP Go.Proofs.Tryz.prog none R55.code (Fin R55 Q) (args ++ List.replicate (R55.ntmps - args.length) undef) H) : ACall Go.Proofs.Tryz.prog 55 args H Q := acall_intro mo Go.Proofs.Tryz.func55 c55 h

def R56 : RFunc :=
  ⟨(.seq (.ops [⟨(some 1), (.box (.tmp 0)), none⟩, ⟨(some 2), (.mov (.const .nilFunc)), none⟩]) (.seq (.ops [⟨(some 3), (.mkFunc (.func 80) [] [(.tmp 1)]), none⟩, ⟨(some 2), (.mov (.tmp 3)), none⟩]) .ret)), 4, [(.tmp 2)]⟩
theorem c56 : compileFn Go.Proofs.Tryz.prog Go.Proofs.Tryz.f56 = some R56 := by kernel_rfl
theorem n56 : R56.ntmps = 4 := rfl
theorem a56 {args : List Value} {H : AHeap} {Q : Value → AHeap → Prop} (h : AWP Go.Proofs.Tryz.prog none R56.code (Fin R56 Q) (args ++ List.replicate (R56.ntmps - args.length) undef) H) : ACall Go.Proofs.Tryz.prog 56 args H Q := acall_intro mo Go.Proofs.Tryz.func56 c56 h

def R57 : RFunc :=
  ⟨(.seq (.ops [⟨(some 4), (.box (.tmp 0)), none⟩, ⟨(some 6), (.box (.tmp 2)), none⟩, ⟨(some 8), (.new [(.int .i64 0), (.int .i64 0), (.int .i64 0), (.int .i64 0)]), none⟩, ⟨(some 9), (.mov (.const (.bool false))), none⟩]) (.seq (.ops [⟨(some 10), (.new [(.int .i64 0), (.int .i64 0), (.int .i64 0), (.int .i64 0)]), none⟩]) (.seq (.seq (.ops [⟨(some 16), (.mov (.tmp 1)), none⟩, ⟨(some 17), (.arith .add (.tmp 16) (.const (.int .i64 1))), none⟩, ⟨(some 11), (.mov (.tmp 17)), none⟩]) (.block 0 (.loop (.seq (.seq (.ops [⟨(some 18), (.mov (.tmp 11)), none⟩, ⟨(some 19), (.fieldAddr 0 (.tmp 4)), none⟩, ⟨(some 20), (.fieldAddr 2 (.tmp 19)), none⟩, ⟨(some 21), (.load (.tmp 20)), none⟩, ⟨(some 22), (.len (.tmp 21)), none⟩, ⟨(some 23), (.cmp .lss (.tmp 18) (.tmp 22)), none⟩]) (.cond (.tmp 23) .skip (.exit 0))) (.seq (.block 1 (.seq (.ops [⟨(some 26), (.fieldAddr 0 (.tmp 4)), none⟩, ⟨(some 27), (.fieldAddr 2 (.tmp 26)), none⟩, ⟨(some 28), (.load (.tmp 27)), none⟩, ⟨(some 29), (.mov (.tmp 11)), none⟩, ⟨(some 30), (.idxAddr 3 (.tmp 28) (.tmp 29)), none⟩, ⟨(some 31), (.fieldAddr 1 (.tmp 30)), none⟩, ⟨(some 32), (.fieldAddr 0 (.tmp 31)), none⟩, ⟨(some 33), (.load (.tmp 32)), none⟩, ⟨(some 12), (.mov (.tmp 33)), none⟩]) (.block 2 (.loop (.seq (.seq (.ops [⟨(some 34), (.mov (.tmp 12)), none⟩, ⟨(some 35), (.fieldAddr 0 (.tmp 4)), none⟩, ⟨(some 36), (.fieldAddr 2 (.tmp 35)), none⟩, ⟨(some 37), (.load (.tmp 36)), none⟩, ⟨(some 38), (.mov (.tmp 11)), none⟩, ⟨(some 39), (.idxAddr 3 (.tmp 37) (.tmp 38)), none⟩, ⟨(some 40), (.fieldAddr 1 (.tmp 39)), none⟩, ⟨(some 41), (.fieldAddr 1 (.tmp 40)), none⟩, ⟨(some 42), (.load (.tmp 41)), none⟩, ⟨(some 43), (.cmp .leq (.tmp 34) (.tmp 42)), none⟩]) (.cond (.tmp 43) .skip (.exit 2))) (.seq (.block 3 (.seq (.ops [⟨(some 46), (.fieldAddr 0 (.tmp 4)), none⟩, ⟨(some 47), (.fieldAddr 2 (.tmp 46)), none⟩, ⟨(some 48), (.load (.tmp 47)), none⟩, ⟨(some 49), (.mov (.tmp 11)), none⟩, ⟨(some 50), (.idxAddr 3 (.tmp 48) (.tmp 49)), none⟩, ⟨(some 51), (.fieldAddr 0 (.tmp 50)), none⟩, ⟨(some 52), (.load (.tmp 51)), none⟩, ⟨(some 53), (.mov (.tmp 12)), none⟩, ⟨(some 54), (.build [(.int .i64 0), (.int .i64 0)] [(0, (1, (.tmp 52))), (1, (1, (.tmp 53)))]), none⟩, ⟨(some 13), (.new [(.int .i64 0), (.int .i64 0)]), none⟩, ⟨none, (.store 2 (.tmp 13) (.tmp 54)), none⟩]) (.seq (.ops [⟨(some 56), (.mov (.tmp 3)), none⟩, ⟨(some 57), (.loadN 2 (.tmp 13)), none⟩, ⟨(some 58), (.mapGet (.agg #[(.int .i64 0), (.int .i64 0), (.int .i64 0), (.int .i64 0)]) [(0, false), (1, false)] true (.tmp 56) (.tmp 57)), none⟩, ⟨(some 55), (.mov (.tmp 58)), none⟩, ⟨(some 59), (.extract (.tmp 55) 0), none⟩, ⟨(some 60), (.extract (.tmp 55) 1), none⟩, ⟨(some 14), (.new [(.int .i64 0), (.int .i64 0), (.int .i64 0), (.int .i64 0)]), none⟩, ⟨none, (.store 4 (.tmp 14) (.tmp 59)), none⟩, ⟨(some 15), (.mov (.tmp 60)), none⟩]) (.seq (.ops [⟨(some 61), (.mov (.tmp 15)), none⟩, ⟨(some 62), (.mov (.tmp 61)), none⟩, ⟨(some 63), (.fieldAddr 0 (.tmp 10)), (some (62, true))⟩, ⟨(some 64), (.load (.tmp 63)), (some (62, true))⟩, ⟨(some 65), (.cmp .eql (.tmp 64) (.const (.int .i64 0))), (some (62, true))⟩, ⟨(some 66), (.mov (.tmp 65)), (some (62, true))⟩, ⟨(some 67), (.fieldAddr 0 (.tmp 14)), (some (66, false))⟩, ⟨(some 68), (.load (.tmp 67)), (some (66, false))⟩, ⟨(some 69), (.arith .add (.tmp 68) (.const (.int .i64 1))), (some (66, false))⟩, ⟨(some 70), (.fieldAddr 0 (.tmp 10)), (some (66, false))⟩, ⟨(some 71), (.load (.tmp 70)), (some (66, false))⟩, ⟨(some 72), (.cmp .lss (.tmp 69) (.tmp 71)), (some (66, false))⟩, ⟨(some 73), (.pick (.tmp 66) (.const (.bool true)) (.tmp 72)), (some (62, true))⟩, ⟨(some 74), (.pick (.tmp 62) (.tmp 73) (.const (.bool false))), none⟩, ⟨(some 75), (.mov (.tmp 74)), none⟩, ⟨(some 76), (.loadN 3 (.tmp 4)), (some (75, true))⟩, ⟨(some 77), (.mov (.tmp 1)), (some (75, true))⟩, ⟨(some 78), (.mov (.tmp 11)), (some (75, true))⟩, ⟨(some 79), (.loadN 2 (.tmp 6)), (some (75, true))⟩, ⟨(some 80), (.loadN 2 (.tmp 13)), (some (75, true))⟩, ⟨(some 81), (.build [(.int .i64 0), (.int .i64 0), (.int .i64 0), (.int .i64 0)] [(0, (2, (.tmp 79))), (2, (2, (.tmp 80)))]), (some (75, true))⟩, ⟨(some 82), (.call (.func 81) [(.tmp 76), (.tmp 77), (.tmp 78), (.tmp 81)]), (some (75, true))⟩, ⟨(some 83), (.pick (.tmp 75) (.tmp 82) (.const (.bool false))), none⟩]) (.cond (.tmp 83) (.ops [⟨(some 84), (.fieldAddr 0 (.tmp 14)), none⟩, ⟨(some 85), (.load (.tmp 84)), none⟩, ⟨(some 86), (.arith .add (.tmp 85) (.const (.int .i64 1))), none⟩, ⟨(some 87), (.loadN 2 (.tmp 13)), none⟩, ⟨(some 88), (.mov (.tmp 11)), none⟩, ⟨(some 89), (.build [(.int .i64 0), (.int .i64 0), (.int .i64 0), (.int .i64 0)] [(0, (1, (.tmp 86))), (1, (2, (.tmp 87))), (3, (1, (.tmp 88)))]), none⟩, ⟨none, (.store 4 (.tmp 10) (.tmp 89)), none⟩]) .skip))))) (.ops [⟨(some 44), (.mov (.tmp 12)), none⟩, ⟨(some 45), (.arith .add (.tmp 44) (.const (.int .i64 1))), none⟩, ⟨(some 12), (.mov (.tmp 45)), none⟩]))))))) (.ops [⟨(some 24), (.mov (.tmp 11)), none⟩, ⟨(some 25), (.arith .add (.tmp 24) (.const (.int .i64 1))), none⟩, ⟨(some 11), (.mov (.tmp 25)), none⟩])))))) (.seq (.drawS 8 4 90 [(⟨(some 90), (.loadN 4 (.tmp 10)), none⟩, false), (⟨(some 91), (.fieldAddr 0 (.tmp 10)), none⟩, false), (⟨(some 92), (.load (.tmp 91)), none⟩, false), (⟨(some 93), (.cmp .gtr (.tmp 92) (.const (.int .i64 0))), none⟩, false), (⟨none, (.mov (.const (.bool false))), none⟩, false), (⟨(some 9), (.mov (.tmp 93)), none⟩, false)]) .ret)))), 94, [(.loadN 4 8), (.tmp 9)]⟩
theorem c57 : compileFn Go.Proofs.Tryz.prog Go.Proofs.Tryz.f57 = some R57 := by kernel_rfl
theorem n57 : R57.ntmps = 94 := rfl
theorem a57 {args : List Value} {H : AHeap} {Q : Value → AHeap → Prop} (h : AWP Go.Proofs.Tryz.prog none R57.code (Fin R57 Q) (args ++ List.replicate (R57.ntmps - args.length) undef) H) : ACall Go.Proofs.Tryz.prog 57 args H Q := acall_intro mo Go.Proofs.Tryz.func57 c57 h

def R58 : RFunc :=
  ⟨(.seq (.ops [⟨(some 2), (.box (.tmp 0)), none⟩, ⟨(some 4), (.mov (.const (.int .i64 0))), none⟩]) (.seq (.draw [(⟨(some 5), (.fieldAddr 0 (.tmp 2)), none⟩, false), (⟨(some 6), (.fieldAddr 1 (.tmp 5)), none⟩, false), (⟨(some 7), (.load (.tmp 6)), none⟩, false), (⟨(some 8), (.loadN 4 (.tmp 2)), none⟩, false), (⟨(some 9), (.call (.func 45) [(.tmp 8)]), none⟩, false), (⟨(some 10), (.arith .mul (.tmp 7) (.tmp 9)), none⟩, false), (⟨(some 11), (.loadN 4 (.tmp 2)), none⟩, false), (⟨(some 12), (.call (.func 47) [(.tmp 11)]), none⟩, false), (⟨(some 13), (.mov (.tmp 1)), none⟩, false), (⟨(some 14), (.fieldAddr 0 (.tmp 2)), none⟩, false), (⟨(some 15), (.fieldAddr 0 (.tmp 14)), none⟩, false), (⟨(some 16), (.load (.tmp 15)), none⟩, false), (⟨(some 17), (.arith .sub (.tmp 13) (.tmp 16)), none⟩, false), (⟨(some 18), (.arith .mul (.tmp 12) (.tmp 17)), none⟩, false), (⟨(some 19), (.arith .add (.tmp 10) (.tmp 18)), none⟩, false), (⟨(some 4), (.mov (.tmp 19)), none⟩, false)]) .ret)), 20, [(.tmp 4)]⟩
theorem c58 : compileFn Go.Proofs.Tryz.prog Go.Proofs.Tryz.f58 = some R58 := by kernel_rfl
theorem n58 : R58.ntmps = 20 := rfl
theorem a58 {args : List Value} {H : AHeap} {Q : Value → AHeap → Prop} (h : AWP Go.Proofs.Tryz.prog none R58.code (Fin R58 Q) (args ++ List.replicate (R58.ntmps - args.length) undef) H) : ACall Go.Proofs.Tryz.prog 58 args H Q := acall_intro mo Go.Proofs.Tryz.func58 c58 h

def R59 : RFunc :=
  ⟨(.seq (.ops [⟨(some 4), (.new [(.int .i64 0), (.int .i64 0)]), none⟩, ⟨(some 5), (.mov (.const (.int .i64 0))), none⟩]) (.seq (.ops [⟨(some 8), (.mov (.tmp 0)), none⟩, ⟨(some 9), (.mov (.tmp 1)), none⟩, ⟨(some 6), (.mov (.tmp 8)), none⟩, ⟨(some 7), (.mov (.tmp 9)), none⟩]) (.seq (.block 0 (.loop (.seq (.seq (.ops [⟨(some 10), (.mov (.tmp 7)), none⟩, ⟨(some 11), (.cmp .neq (.tmp 10) (.const (.int .i64 0))), none⟩]) (.cond (.tmp 11) .skip (.exit 0))) (.block 1 (.draw [(⟨(some 12), (.mov (.tmp 7)), none⟩, false), (⟨(some 13), (.mov (.tmp 6)), none⟩, false), (⟨(some 14), (.mov (.tmp 7)), none⟩, false), (⟨(some 15), (.arith .rem (.tmp 13) (.tmp 14)), none⟩, false), (⟨(some 6), (.mov (.tmp 12)), none⟩, false), (⟨(some 7), (.mov (.tmp 15)), none⟩, false)]))))) (.seq (.seq (.ops [⟨(some 16), (.mov (.tmp 0)), none⟩, ⟨(some 17), (.mov (.tmp 6)), none⟩, ⟨(some 18), (.arith .quo (.tmp 16) (.tmp 17)), none⟩, ⟨(some 19), (.cmp .gtr (.tmp 18) (.const (.int .i64 1000000000))), none⟩]) (.cond (.tmp 19) (.seq (.ops [⟨(some 20), (.build [(.int .i64 0), (.int .i64 0)] []), none⟩, ⟨none, (.store 2 (.tmp 4) (.tmp 20)), none⟩, ⟨(some 5), (.mov (.const (.int .i64 8))), none⟩]) .ret) .skip)) (.seq (.draw [(⟨(some 21), (.mov (.tmp 0)), none⟩, false), (⟨(some 22), (.mov (.tmp 6)), none⟩, false), (⟨(some 23), (.arith .quo (.tmp 21) (.tmp 22)), none⟩, false), (⟨(some 24), (.mov (.tmp 1)), none⟩, false), (⟨(some 25), (.mov (.tmp 6)), none⟩, false), (⟨(some 26), (.arith .quo (.tmp 24) (.tmp 25)), none⟩, false), (⟨(some 27), (.build [(.int .i64 0), (.int .i64 0)] [(0, (1, (.tmp 23))), (1, (1, (.tmp 26)))]), none⟩, false), (⟨none, (.store 2 (.tmp 4) (.tmp 27)), none⟩, false), (⟨(some 5), (.mov (.const (.int .i64 0))), none⟩, false)]) .ret))))), 28, [(.loadN 2 4), (.tmp 5)]⟩
theorem c59 : compileFn Go.Proofs.Tryz.prog Go.Proofs.Tryz.f59 = some R59 := by kernel_rfl
theorem n59 : R59.ntmps = 28 := rfl
theorem a59 {args : List Value} {H : AHeap} {Q : Value → AHeap → Prop} (h : AWP Go.Proofs.Tryz.prog none R59.code (Fin R59 Q) (args ++ List.replicate (R59.ntmps - args.length) undef) H) : ACall Go.Proofs.Tryz.prog 59 args H Q := acall_intro mo Go.Proofs.Tryz.func59 c59 h

def R64 : RFunc :=
  ⟨(.seq (.ops [⟨(some 3), (.box (.tmp 0)), none⟩, ⟨(some 4), (.box (.tmp 1)), none⟩, ⟨(some 5), (.box (.tmp 2)), none⟩, ⟨(some 6), (.mov (.const .nilFunc)), none⟩]) (.seq (.ops [⟨(some 7), (.mkFunc (.func 85) [] [(.tmp 4), (.tmp 3), (.tmp 5)]), none⟩, ⟨(some 6), (.mov (.tmp 7)), none⟩]) .ret)), 8, [(.tmp 6)]⟩
theorem c64 : compileFn Go.Proofs.Tryz.prog Go.Proofs.Tryz.f64 = some R64 := by kernel_rfl
theorem n64 : R64.ntmps = 8 := rfl
theorem a64 {args : List Value} {H : AHeap} {Q : Value → AHeap → Prop} (h : AWP Go.Proofs.Tryz.prog none R64.code (Fin R64 Q) (args ++ List.replicate (R64.ntmps - args.length) undef) H) : ACall Go.Proofs.Tryz.prog 64 args H Q := acall_intro mo Go.Proofs.Tryz.func64 c64 h

def R67 : RFunc :=
  ⟨(.seq (.ops [⟨(some 1), (.box (.tmp 0)), none⟩, ⟨(some 2), (.mov (.const (.int .i64 0))), none⟩, ⟨(some 3), (.mov (.const (.int .i64 0))), none⟩]) (.seq (.seq (.draw [(⟨(some 9), (.fieldAddr 0 (.tmp 1)), none⟩, false), (⟨(some 10), (.load (.tmp 9)), none⟩, false), (⟨(some 11), (.len (.tmp 10)), none⟩, false), (⟨(some 12), (.cmp .geq (.tmp 11) (.const (.int .i64 2))), none⟩, false), (⟨(some 13), (.call (.func 50) [(.tmp 12), (.const (.int .i64 10))]), none⟩, false), (⟨(some 14), (.fieldAddr 0 (.tmp 1)), none⟩, false), (⟨(some 15), (.load (.tmp 14)), none⟩, false), (⟨(some 16), (.len (.tmp 15)), none⟩, false), (⟨(some 17), (.cmp .leq (.tmp 16) (.const (.int .i64 20))), none⟩, false), (⟨(some 18), (.call (.func 50) [(.tmp 17), (.const (.int .i64 8))]), none⟩, false), (⟨(some 19), (.buildSlice 1 2 [(.int .i64 0), (.int .i64 0)] [(0, (1, (.tmp 13))), (1, (1, (.tmp 18)))]), none⟩, false), (⟨(some 20), (.call (.func 49) [(.tmp 19)]), none⟩, false), (⟨(some 4), (.mov (.tmp 20)), none⟩, false)]) (.seq (.ops [⟨(some 21), (.mov (.tmp 4)), none⟩, ⟨(some 22), (.cmp .neq (.tmp 21) (.const (.int .i64 0))), none⟩]) (.cond (.tmp 22) (.seq (.ops [⟨(some 23), (.mov (.tmp 4)), none⟩, ⟨(some 2), (.mov (.const (.int .i64 0))), none⟩, ⟨(some 3), (.mov (.tmp 23)), none⟩]) .ret) .skip))) (.seq (.ops [⟨(some 24), (.build [(.int .i64 0), (.int .i64 0)] [(0, (1, (.const (.int .i64 (-1))))), (1, (1, (.const (.int .i64 (-1)))))]), none⟩, ⟨(some 5), (.new [(.int .i64 0), (.int .i64 0)]), none⟩, ⟨none, (.store 2 (.tmp 5) (.tmp 24)), none⟩]) (.seq (.seq (.ops [⟨(some 25), (.fieldAddr 0 (.tmp 1)), none⟩, ⟨(some 26), (.load (.tmp 25)), none⟩, ⟨(some 27), (.len (.tmp 26)), none⟩, ⟨(some 28), (.mov (.const (.int .i64 0))), none⟩]) (.block 0 (.loop (.seq (.ops [⟨(some 29), (.cmp .lss (.tmp 28) (.tmp 27)), none⟩]) (.seq (.cond (.tmp 29) .skip (.exit 0)) (.seq (.block 1 (.seq (.ops [⟨(some 30), (.mov (.tmp 28)), none⟩, ⟨(some 31), (.idxAddr 2 (.tmp 26) (.tmp 28)), none⟩, ⟨(some 32), (.loadN 2 (.tmp 31)), none⟩, ⟨(some 7), (.new [(.int .i64 0), (.int .i64 0)]), none⟩, ⟨(some 6), (.mov (.tmp 30)), none⟩, ⟨none, (.store 2 (.tmp 7) (.tmp 32)), none⟩]) (.seq (.seq (.draw [(⟨(some 33), (.fieldAddr 0 (.tmp 7)), none⟩, false), (⟨(some 34), (.load (.tmp 33)), none⟩, false), (⟨(some 35), (.call (.func 51) [(.tmp 34)]), none⟩, false), (⟨(some 36), (.mov (.tmp 35)), none⟩, false), (⟨(some 37), (.fieldAddr 1 (.tmp 7)), (some (36, true))⟩, false), (⟨(some 38), (.load (.tmp 37)), (some (36, true))⟩, false), (⟨(some 39), (.call (.func 72) [(.tmp 38)]), (some (36, true))⟩, false), (⟨(some 40), (.pick (.tmp 36) (.tmp 39) (.const (.bool false))), none⟩, false), (⟨(some 41), (.call (.func 50) [(.tmp 40), (.const (.int .i64 2))]), none⟩, false), (⟨(some 42), (.fieldAddr 0 (.tmp 7)), none⟩, false), (⟨(some 43), (.load (.tmp 42)), none⟩, false), (⟨(some 44), (.fieldAddr 0 (.tmp 5)), none⟩, false), (⟨(some 45), (.load (.tmp 44)), none⟩, false), (⟨(some 46), (.cmp .gtr (.tmp 43) (.tmp 45)), none⟩, false), (⟨(some 47), (.mov (.tmp 46)), none⟩, false), (⟨(some 48), (.fieldAddr 1 (.tmp 7)), (some (47, true))⟩, false), (⟨(some 49), (.load (.tmp 48)), (some (47, true))⟩, false), (⟨(some 50), (.fieldAddr 1 (.tmp 5)), (some (47, true))⟩, false), (⟨(some 51), (.load (.tmp 50)), (some (47, true))⟩, false), (⟨(some 52), (.cmp .gtr (.tmp 49) (.tmp 51)), (some (47, true))⟩, false), (⟨(some 53), (.pick (.tmp 47) (.tmp 52) (.const (.bool false))), none⟩, false), (⟨(some 54), (.call (.func 50) [(.tmp 53), (.const (.int .i64 9))]), none⟩, false), (⟨(some 55), (.buildSlice 1 2 [(.int .i64 0), (.int .i64 0)] [(0, (1, (.tmp 41))), (1, (1, (.tmp 54)))]), none⟩, false), (⟨(some 56), (.call (.func 49) [(.tmp 55)]), none⟩, false), (⟨(some 8), (.mov (.tmp 56)), none⟩, false)]) (.seq (.ops [⟨(some 57), (.mov (.tmp 8)), none⟩, ⟨(some 58), (.cmp .neq (.tmp 57) (.const (.int .i64 0))), none⟩]) (.cond (.tmp 58) (.seq (.ops [⟨(some 59), (.mov (.tmp 6)), none⟩, ⟨(some 60), (.mov (.tmp 8)), none⟩, ⟨(some 2), (.mov (.tmp 59)), none⟩, ⟨(some 3), (.mov (.tmp 60)), none⟩]) .ret) .skip))) (.ops [⟨(some 61), (.loadN 2 (.tmp 7)), none⟩, ⟨none, (.store 2 (.tmp 5) (.tmp 61)), none⟩])))) (.ops [⟨(some 62), (.arith .add (.tmp 28) (.const (.int .i64 1))), none⟩, ⟨(some 28), (.mov (.tmp 62)), none⟩]))))))) (.seq (.ops [⟨(some 2), (.mov (.const (.int .i64 0))), none⟩, ⟨(some 3), (.mov (.const (.int .i64 0))), none⟩]) .ret))))), 63, [(.tmp 2), (.tmp 3)]⟩
theorem c67 : compileFn Go.Proofs.Tryz.prog Go.Proofs.Tryz.f67 = some R67 := by kernel_rfl
theorem n67 : R67.ntmps = 63 := rfl
theorem a67 {args : List Value} {H : AHeap} {Q : Value → AHeap → Prop} (h : AWP Go.Proofs.Tryz.prog none R67.code (Fin R67 Q) (args ++ List.replicate (R67.ntmps - args.length) undef) H) : ACall Go.Proofs.Tryz.prog 67 args H Q := acall_intro mo Go.Proofs.Tryz.func67 c67 h

def R68 : RFunc :=
  ⟨(.seq (.ops [⟨(some 4), (.mov (.const (.int .i64 0))), none⟩, ⟨(some 5), (.mov (.const (.bool false))), none⟩]) (.seq (.ops [⟨(some 6), (.mov (.const (.int .i64 0))), none⟩]) (.seq (.seq (.ops [⟨(some 9), (.mov (.tmp 0)), none⟩, ⟨(some 10), (.lenS (.tmp 9)), none⟩, ⟨(some 11), (.cmp .gtr (.tmp 10) (.const (.int .i64 0))), none⟩, ⟨(some 12), (.mov (.tmp 11)), none⟩, ⟨(some 13), (.mov (.tmp 0)), (some (12, true))⟩, ⟨(some 14), (.idxS (.tmp 13) (.const (.int .i64 0))), (some (12, true))⟩, ⟨(some 15), (.cmp .eql (.tmp 14) (.const (.int .u8 45))), (some (12, true))⟩, ⟨(some 16), (.pick (.tmp 12) (.tmp 15) (.const (.bool false))), none⟩]) (.cond (.tmp 16) (.ops [⟨(some 6), (.mov (.const (.int .i64 1))), none⟩]) .skip)) (.seq (.seq (.ops [⟨(some 17), (.mov (.tmp 0)), none⟩, ⟨(some 18), (.lenS (.tmp 17)), none⟩, ⟨(some 19), (.mov (.tmp 6)), none⟩, ⟨(some 20), (.cmp .eql (.tmp 18) (.tmp 19)), none⟩, ⟨(some 21), (.mov (.tmp 20)), none⟩, ⟨(some 22), (.mov (.tmp 0)), (some (21, false))⟩, ⟨(some 23), (.lenS (.tmp 22)), (some (21, false))⟩, ⟨(some 24), (.mov (.tmp 6)), (some (21, false))⟩, ⟨(some 25), (.arith .sub (.tmp 23) (.tmp 24)), (some (21, false))⟩, ⟨(some 26), (.mov (.tmp 1)), (some (21, false))⟩, ⟨(some 27), (.cmp .gtr (.tmp 25) (.tmp 26)), (some (21, false))⟩, ⟨(some 28), (.pick (.tmp 21) (.const (.bool true)) (.tmp 27)), none⟩, ⟨(some 29), (.mov (.tmp 28)), none⟩, ⟨(some 30), (.mov (.tmp 0)), (some (29, false))⟩, ⟨(some 31), (.mov (.tmp 6)), (some (29, false))⟩, ⟨(some 32), (.idxS (.tmp 30) (.tmp 31)), (some (29, false))⟩, ⟨(some 33), (.cmp .eql (.tmp 32) (.const (.int .u8 48))), (some (29, false))⟩, ⟨(some 34), (.mov (.tmp 33)), (some (29, false))⟩, ⟨(some 35), (.mov (.tmp 0)), (some (34, true))⟩, ⟨(some 36), (.lenS (.tmp 35)), (some (34, true))⟩, ⟨(some 37), (.cmp .gtr (.tmp 36) (.const (.int .i64 1))), (some (34, true))⟩, ⟨(some 38), (.pick (.tmp 34) (.tmp 37) (.const (.bool false))), (some (29, false))⟩, ⟨(some 39), (.pick (.tmp 29) (.const (.bool true)) (.tmp 38)), none⟩]) (.cond (.tmp 39) (.seq (.ops [⟨(some 4), (.mov (.const (.int .i64 0))), none⟩, ⟨(some 5), (.mov (.const (.bool false))), none⟩]) .ret) .skip)) (.seq (.ops [⟨(some 7), (.mov (.const (.int .i64 0))), none⟩]) (.seq (.seq (.ops [⟨(some 40), (.mov (.tmp 6)), none⟩, ⟨(some 8), (.mov (.tmp 40)), none⟩]) (.block 0 (.loop (.seq (.seq (.ops [⟨(some 41), (.mov (.tmp 8)), none⟩, ⟨(some 42), (.mov (.tmp 0)), none⟩, ⟨(some 43), (.lenS (.tmp 42)), none⟩, ⟨(some 44), (.cmp .lss (.tmp 41) (.tmp 43)), none⟩]) (.cond (.tmp 44) .skip (.exit 0))) (.seq (.block 1 (.seq (.seq (.ops [⟨(some 47), (.mov (.tmp 0)), none⟩, ⟨(some 48), (.mov (.tmp 8)), none⟩, ⟨(some 49), (.idxS (.tmp 47) (.tmp 48)), none⟩, ⟨(some 50), (.cmp .lss (.tmp 49) (.const (.int .u8 48))), none⟩, ⟨(some 51), (.mov (.tmp 50)), none⟩, ⟨(some 52), (.mov (.tmp 0)), (some (51, false))⟩, ⟨(some 53), (.mov (.tmp 8)), (some (51, false))⟩, ⟨(some 54), (.idxS (.tmp 52) (.tmp 53)), (some (51, false))⟩, ⟨(some 55), (.cmp .gtr (.tmp 54) (.const (.int .u8 57))), (some (51, false))⟩, ⟨(some 56), (.pick (.tmp 51) (.const (.bool true)) (.tmp 55)), none⟩]) (.cond (.tmp 56) (.seq (.ops [⟨(some 4), (.mov (.const (.int .i64 0))), none⟩, ⟨(some 5), (.mov (.const (.bool false))), none⟩]) .ret) .skip)) (.ops [⟨(some 57), (.mov (.tmp 7)), none⟩, ⟨(some 58), (.arith .mul (.const (.int .i64 10)) (.tmp 57)), none⟩, ⟨(some 59), (.mov (.tmp 0)), none⟩, ⟨(some 60), (.mov (.tmp 8)), none⟩, ⟨(some 61), (.idxS (.tmp 59) (.tmp 60)), none⟩, ⟨(some 62), (.arith .sub (.tmp 61) (.const (.int .u8 48))), none⟩, ⟨(some 63), (.conv .i64 (.tmp 62)), none⟩, ⟨(some 64), (.arith .add (.tmp 58) (.tmp 63)), none⟩, ⟨(some 7), (.mov (.tmp 64)), none⟩]))) (.ops [⟨(some 45), (.mov (.tmp 8)), none⟩, ⟨(some 46), (.arith .add (.tmp 45) (.const (.int .i64 1))), none⟩, ⟨(some 8), (.mov (.tmp 46)), none⟩])))))) (.seq (.seq (.ops [⟨(some 65), (.mov (.tmp 6)), none⟩, ⟨(some 66), (.cmp .eql (.tmp 65) (.const (.int .i64 1))), none⟩]) (.cond (.tmp 66) (.ops [⟨(some 67), (.mov (.tmp 7)), none⟩, ⟨(some 68), (.neg (.tmp 67)), none⟩, ⟨(some 7), (.mov (.tmp 68)), none⟩]) .skip)) (.seq (.ops [⟨(some 69), (.mov (.tmp 7)), none⟩, ⟨(some 4), (.mov (.tmp 69)), none⟩, ⟨(some 5), (.mov (.const (.bool true))), none⟩]) .ret)))))))), 70, [(.tmp 4), (.tmp 5)]⟩
theorem c68 : compileFn Go.Proofs.Tryz.prog Go.Proofs.Tryz.f68 = some R68 := by kernel_rfl
theorem n68 : R68.ntmps = 70 := rfl
theorem a68 {args : List Value} {H : AHeap} {Q : Value → AHeap → Prop} (h : AWP Go.Proofs.Tryz.prog none R68.code (Fin R68 Q) (args ++ List.replicate (R68.ntmps - args.length) undef) H) : ACall Go.Proofs.Tryz.prog 68 args H Q := acall_intro mo Go.Proofs.Tryz.func68 c68 h

def R69 : RFunc :=
  ⟨(.seq (.ops [⟨(some 2), (.mov (.const (.int .i64 0))), none⟩]) (.seq (.ops [⟨(some 3), (.mov (.tmp 0)), none⟩, ⟨(some 4), (.mov (.tmp 0)), none⟩, ⟨(some 5), (.neg (.tmp 4)), none⟩, ⟨(some 6), (.most true (.tmp 3) [(.tmp 5)]), none⟩, ⟨(some 2), (.mov (.tmp 6)), none⟩]) .ret)), 7, [(.tmp 2)]⟩
theorem c69 : compileFn Go.Proofs.Tryz.prog Go.Proofs.Tryz.f69 = some R69 := by kernel_rfl
theorem n69 : R69.ntmps = 7 := rfl
theorem a69 {args : List Value} {H : AHeap} {Q : Value → AHeap → Prop} (h : AWP Go.Proofs.Tryz.prog none R69.code (Fin R69 Q) (args ++ List.replicate (R69.ntmps - args.length) undef) H) : ACall Go.Proofs.Tryz.prog 69 args H Q := acall_intro mo Go.Proofs.Tryz.func69 c69 h

def R70 : RFunc :=
  ⟨(.seq (.ops [⟨(some 8), (.mov (.const (.slice none 0 0))), none⟩]) (.seq (.seq (.ops [⟨(some 12), (.mov (.tmp 3)), none⟩, ⟨(some 13), (.cmp .eql (.tmp 12) (.const (.int .i64 0))), none⟩]) (.cond (.tmp 13) (.seq (.ops [⟨(some 8), (.mov (.const (.slice none 0 0))), none⟩]) .ret) .skip)) (.seq (.seq (.ops [⟨(some 14), (.mov (.tmp 1)), none⟩, ⟨(some 15), (.strOp .eql (.tmp 14) (.const (.string ⟨#[]⟩))), none⟩]) (.cond (.tmp 15) (.seq (.ops [⟨(some 16), (.mov (.tmp 0)), none⟩, ⟨(some 17), (.mov (.tmp 3)), none⟩, ⟨(some 18), (.call (.func 91) [(.tmp 16), (.tmp 17)]), none⟩, ⟨(some 8), (.mov (.tmp 18)), none⟩]) .ret) .skip)) (.seq (.seq (.ops [⟨(some 19), (.mov (.tmp 3)), none⟩, ⟨(some 20), (.cmp .lss (.tmp 19) (.const (.int .i64 0))), none⟩]) (.cond (.tmp 20) (.ops [⟨(some 21), (.mov (.tmp 0)), none⟩, ⟨(some 22), (.mov (.tmp 1)), none⟩, ⟨(some 23), (.call (.func 92) [(.tmp 21), (.tmp 22)]), none⟩, ⟨(some 24), (.arith .add (.tmp 23) (.const (.int .i64 1))), none⟩, ⟨(some 3), (.mov (.tmp 24)), none⟩]) .skip)) (.seq (.ops [⟨(some 25), (.mov (.tmp 3)), none⟩, ⟨(some 26), (.mov (.tmp 0)), none⟩, ⟨(some 27), (.lenS (.tmp 26)), none⟩, ⟨(some 28), (.arith .add (.tmp 27) (.const (.int .i64 1))), none⟩, ⟨(some 29), (.most false (.tmp 25) [(.tmp 28)]), none⟩, ⟨(some 3), (.mov (.tmp 29)), none⟩]) (.seq (.ops [⟨(some 30), (.mov (.tmp 3)), none⟩, ⟨(some 31), (.mkSlice 16 [(.string ⟨#[]⟩)] (.tmp 30) (.tmp 30)), none⟩, ⟨(some 9), (.mov (.tmp 31)), none⟩]) (.seq (.ops [⟨(some 32), (.mov (.tmp 3)), none⟩, ⟨(some 33), (.arith .sub (.tmp 32) (.const (.int .i64 1))), none⟩, ⟨(some 3), (.mov (.tmp 33)), none⟩]) (.seq (.ops [⟨(some 10), (.mov (.const (.int .i64 0))), none⟩]) (.seq (.block 0 (.loop (.seq (.seq (.ops [⟨(some 34), (.mov (.tmp 10)), none⟩, ⟨(some 35), (.mov (.tmp 3)), none⟩, ⟨(some 36), (.cmp .lss (.tmp 34) (.tmp 35)), none⟩]) (.cond (.tmp 36) .skip (.exit 0))) (.block 1 (.seq (.ops [⟨(some 37), (.mov (.tmp 0)), none⟩, ⟨(some 38), (.mov (.tmp 1)), none⟩, ⟨(some 39), (.call (.func 87) [(.tmp 37), (.tmp 38)]), none⟩, ⟨(some 11), (.mov (.tmp 39)), none⟩]) (.seq (.seq (.ops [⟨(some 40), (.mov (.tmp 11)), none⟩, ⟨(some 41), (.cmp .lss (.tmp 40) (.const (.int .i64 0))), none⟩]) (.cond (.tmp 41) (.exit 0) .skip)) (.seq (.ops [⟨(some 42), (.mov (.tmp 9)), none⟩, ⟨(some 43), (.mov (.tmp 10)), none⟩, ⟨(some 44), (.mov (.tmp 0)), none⟩, ⟨(some 45), (.mov (.tmp 11)), none⟩, ⟨(some 46), (.mov (.tmp 2)), none⟩, ⟨(some 47), (.arith .add (.tmp 45) (.tmp 46)), none⟩, ⟨(some 48), (.sliceS (.tmp 44) none (some (.tmp 47))), none⟩, ⟨(some 49), (.idxAddr 1 (.tmp 42) (.tmp 43)), none⟩, ⟨none, (.store 1 (.tmp 49) (.tmp 48)), none⟩]) (.seq (.ops [⟨(some 50), (.mov (.tmp 0)), none⟩, ⟨(some 51), (.mov (.tmp 11)), none⟩, ⟨(some 52), (.mov (.tmp 1)), none⟩, ⟨(some 53), (.lenS (.tmp 52)), none⟩, ⟨(some 54), (.arith .add (.tmp 51) (.tmp 53)), none⟩, ⟨(some 55), (.sliceS (.tmp 50) (some (.tmp 54)) none), none⟩, ⟨(some 0), (.mov (.tmp 55)), none⟩]) (.ops [⟨(some 56), (.mov (.tmp 10)), none⟩, ⟨(some 57), (.arith .add (.tmp 56) (.const (.int .i64 1))), none⟩, ⟨(some 10), (.mov (.tmp 57)), none⟩]))))))))) (.seq (.ops [⟨(some 58), (.mov (.tmp 9)), none⟩, ⟨(some 59), (.mov (.tmp 10)), none⟩, ⟨(some 60), (.mov (.tmp 0)), none⟩, ⟨(some 61), (.idxAddr 1 (.tmp 58) (.tmp 59)), none⟩, ⟨none, (.store 1 (.tmp 61) (.tmp 60)), none⟩]) (.seq (.ops [⟨(some 62), (.mov (.tmp 9)), none⟩, ⟨(some 63), (.mov (.tmp 10)), none⟩, ⟨(some 64), (.arith .add (.tmp 63) (.const (.int .i64 1))), none⟩, ⟨(some 65), (.slice 1 (.tmp 62) none (some (.tmp 64)) none), none⟩, ⟨(some 8), (.mov (.tmp 65)), none⟩]) .ret))))))))))), 66, [(.tmp 8)]⟩
theorem c70 : compileFn Go.Proofs.Tryz.prog Go.Proofs.Tryz.f70 = some R70 := by kernel_rfl
theorem a70 {args : List Value} {H : AHeap} {Q : Value → AHeap → Prop} (h : AWP Go.Proofs.Tryz.prog none R70.code (Fin R70 Q) (args ++ List.replicate (R70.ntmps - args.length) undef) H) : ACall Go.Proofs.Tryz.prog 70 args H Q := acall_intro mo Go.Proofs.Tryz.func70 c70 h

def R71 : RFunc :=
  ⟨(.seq (.ops [⟨(some 2), (.box (.tmp 0)), none⟩, ⟨(some 4), (.mov (.const (.bool false))), none⟩]) (.seq (.ops [⟨(some 5), (.mov (.tmp 1)), none⟩, ⟨(some 6), (.fieldAddr 0 (.tmp 2)), none⟩, ⟨(some 7), (.load (.tmp 6)), none⟩, ⟨(some 8), (.call (.tmp 5) [(.tmp 7)]), none⟩, ⟨(some 9), (.mov (.tmp 8)), none⟩, ⟨(some 10), (.mov (.tmp 1)), (some (9, true))⟩, ⟨(some 11), (.fieldAddr 1 (.tmp 2)), (some (9, true))⟩, ⟨(some 12), (.load (.tmp 11)), (some (9, true))⟩, ⟨(some 13), (.call (.tmp 10) [(.tmp 12)]), (some (9, true))⟩, ⟨(some 14), (.pick (.tmp 9) (.tmp 13) (.const (.bool false))), none⟩, ⟨(some 4), (.mov (.tmp 14)), none⟩]) .ret)), 15, [(.tmp 4)]⟩
theorem c71 : compileFn Go.Proofs.Tryz.prog Go.Proofs.Tryz.f71 = some R71 := by kernel_rfl
theorem n71 : R71.ntmps = 15 := rfl
theorem a71 {args : List Value} {H : AHeap} {Q : Value → AHeap → Prop} (h : AWP Go.Proofs.Tryz.prog none R71.code (Fin R71 Q) (args ++ List.replicate (R71.ntmps - args.length) undef) H) : ACall Go.Proofs.Tryz.prog 71 args H Q := acall_intro mo Go.Proofs.Tryz.func71 c71 h

def R72 : RFunc :=
  ⟨(.seq (.ops [⟨(some 2), (.mov (.const (.bool false))), none⟩]) (.seq (.ops [⟨(some 3), (.mov (.tmp 0)), none⟩, ⟨(some 4), (.call (.func 43) [(.tmp 3), (.const (.int .i64 0)), (.const (.int .i64 1000000000000))]), none⟩, ⟨(some 2), (.mov (.tmp 4)), none⟩]) .ret)), 5, [(.tmp 2)]⟩
theorem c72 : compileFn Go.Proofs.Tryz.prog Go.Proofs.Tryz.f72 = some R72 := by kernel_rfl
theorem n72 : R72.ntmps = 5 := rfl
theorem a72 {args : List Value} {H : AHeap} {Q : Value → AHeap → Prop} (h : AWP Go.Proofs.Tryz.prog none R72.code (Fin R72 Q) (args ++ List.replicate (R72.ntmps - args.length) undef) H) : ACall Go.Proofs.Tryz.prog 72 args H Q := acall_intro mo Go.Proofs.Tryz.func72 c72 h

def R73 : RFunc :=
  ⟨(.seq (.ops [⟨(some 6), (.mov (.const (.bool false))), none⟩]) (.seq (.ops [⟨(some 7), (.mov (.tmp 1)), none⟩, ⟨(some 8), (.mov (.tmp 0)), none⟩, ⟨(some 9), (.cmp .leq (.tmp 7) (.tmp 8)), none⟩, ⟨(some 10), (.mov (.tmp 9)), none⟩, ⟨(some 11), (.mov (.tmp 0)), (some (10, true))⟩, ⟨(some 12), (.mov (.tmp 2)), (some (10, true))⟩, ⟨(some 13), (.cmp .leq (.tmp 11) (.tmp 12)), (some (10, true))⟩, ⟨(some 14), (.pick (.tmp 10) (.tmp 13) (.const (.bool false))), none⟩, ⟨(some 6), (.mov (.tmp 14)), none⟩]) .ret)), 15, [(.tmp 6)]⟩
theorem c73 : compileFn Go.Proofs.Tryz.prog Go.Proofs.Tryz.f73 = some R73 := by kernel_rfl
theorem n73 : R73.ntmps = 15 := rfl
theorem a73 {args : List Value} {H : AHeap} {Q : Value → AHeap → Prop} (h : AWP Go.Proofs.Tryz.prog none R73.code (Fin R73 Q) (args ++ List.replicate (R73.ntmps - args.length) undef) H) : ACall Go.Proofs.Tryz.prog 73 args H Q := acall_intro mo Go.Proofs.Tryz.func73 c73 h

def R74 : RFunc :=
  ⟨(.seq (.ops [⟨(some 1), (.box (.tmp 0)), none⟩, ⟨(some 2), (.mov (.const .nilFunc)), none⟩]) (.seq (.ops [⟨(some 3), (.mkFunc (.func 93) [] [(.tmp 1)]), none⟩, ⟨(some 2), (.mov (.tmp 3)), none⟩]) .ret)), 4, [(.tmp 2)]⟩
theorem c74 : compileFn Go.Proofs.Tryz.prog Go.Proofs.Tryz.f74 = some R74 := by kernel_rfl
theorem n74 : R74.ntmps = 4 := rfl
theorem a74 {args : List Value} {H : AHeap} {Q : Value → AHeap → Prop} (h : AWP Go.Proofs.Tryz.prog none R74.code (Fin R74 Q) (args ++ List.replicate (R74.ntmps - args.length) undef) H) : ACall Go.Proofs.Tryz.prog 74 args H Q := acall_intro mo Go.Proofs.Tryz.func74 c74 h

def R75 : RFunc :=
  ⟨(.seq (.ops [⟨(some 2), (.mov (.const (.int .i64 0))), none⟩]) (.seq (.ops [⟨(some 3), (.mov (.tmp 0)), none⟩, ⟨(some 4), (.call (.func 94) [(.tmp 3)]), none⟩, ⟨(some 5), (.arith .sub (.const (.int .i64 64)) (.tmp 4)), none⟩, ⟨(some 2), (.mov (.tmp 5)), none⟩]) .ret)), 6, [(.tmp 2)]⟩
theorem c75 : compileFn Go.Proofs.Tryz.prog Go.Proofs.Tryz.f75 = some R75 := by kernel_rfl
theorem n75 : R75.ntmps = 6 := rfl
theorem a75 {args : List Value} {H : AHeap} {Q : Value → AHeap → Prop} (h : AWP Go.Proofs.Tryz.prog none R75.code (Fin R75 Q) (args ++ List.replicate (R75.ntmps - args.length) undef) H) : ACall Go.Proofs.Tryz.prog 75 args H Q := acall_intro mo Go.Proofs.Tryz.func75 c75 h

def R76 : RFunc :=
  ⟨(.seq (.ops [⟨(some 1), (.box (.tmp 0)), none⟩, ⟨(some 2), (.mov (.const (.int .i64 0))), none⟩, ⟨(some 3), (.mov (.const (.int .i64 0))), none⟩]) (.seq (.ops [⟨(some 4), (.mov (.func 95)), none⟩]) (.seq (.draw [(⟨(some 10), (.fieldAddr 0 (.tmp 1)), none⟩, false), (⟨(some 11), (.loadN 2 (.tmp 10)), none⟩, false), (⟨(some 12), (.mov (.tmp 4)), none⟩, false), (⟨(some 13), (.call (.func 71) [(.tmp 11), (.tmp 12)]), none⟩, false), (⟨(some 14), (.call (.func 50) [(.tmp 13), (.const (.int .i64 2))]), none⟩, false), (⟨(some 15), (.fieldAddr 0 (.tmp 1)), none⟩, false), (⟨(some 16), (.fieldAddr 0 (.tmp 15)), none⟩, false), (⟨(some 17), (.load (.tmp 16)), none⟩, false), (⟨(some 18), (.fieldAddr 0 (.tmp 1)), none⟩, false), (⟨(some 19), (.fieldAddr 1 (.tmp 18)), none⟩, false), (⟨(some 20), (.load (.tmp 19)), none⟩, false), (⟨(some 21), (.cmp .leq (.tmp 17) (.tmp 20)), none⟩, false), (⟨(some 22), (.call (.func 50) [(.tmp 21), (.const (.int .i64 9))]), none⟩, false), (⟨(some 23), (.fieldAddr 2 (.tmp 1)), none⟩, false), (⟨(some 24), (.load (.tmp 23)), none⟩, false), (⟨(some 25), (.len (.tmp 24)), none⟩, false), (⟨(some 26), (.cmp .leq (.tmp 25) (.const (.int .i64 12))), none⟩, false), (⟨(some 27), (.call (.func 50) [(.tmp 26), (.const (.int .i64 8))]), none⟩, false), (⟨(some 28), (.buildSlice 1 3 [(.int .i64 0), (.int .i64 0), (.int .i64 0)] [(0, (1, (.tmp 14))), (1, (1, (.tmp 22))), (2, (1, (.tmp 27)))]), none⟩, false), (⟨(some 29), (.call (.func 49) [(.tmp 28)]), none⟩, false), (⟨(some 5), (.mov (.tmp 29)), none⟩, false)]) (.seq (.seq (.ops [⟨(some 30), (.mov (.tmp 5)), none⟩, ⟨(some 31), (.cmp .neq (.tmp 30) (.const (.int .i64 0))), none⟩]) (.cond (.tmp 31) (.seq (.ops [⟨(some 32), (.mov (.tmp 5)), none⟩, ⟨(some 2), (.mov (.const (.int .i64 0))), none⟩, ⟨(some 3), (.mov (.tmp 32)), none⟩]) .ret) .skip)) (.seq (.ops [⟨(some 6), (.mov (.const (.int .i64 (-1)))), none⟩]) (.seq (.seq (.ops [⟨(some 33), (.fieldAddr 2 (.tmp 1)), none⟩, ⟨(some 34), (.load (.tmp 33)), none⟩, ⟨(some 35), (.len (.tmp 34)), none⟩, ⟨(some 36), (.mov (.const (.int .i64 0))), none⟩]) (.block 0 (.loop (.seq (.ops [⟨(some 37), (.cmp .lss (.tmp 36) (.tmp 35)), none⟩]) (.seq (.cond (.tmp 37) .skip (.exit 0)) (.seq (.block 1 (.seq (.ops [⟨(some 38), (.mov (.tmp 36)), none⟩, ⟨(some 39), (.idxAddr 3 (.tmp 34) (.tmp 36)), none⟩, ⟨(some 40), (.loadN 3 (.tmp 39)), none⟩, ⟨(some 8), (.new [(.int .i64 0), (.int .i64 0), (.int .i64 0)]), none⟩, ⟨(some 7), (.mov (.tmp 38)), none⟩, ⟨none, (.store 3 (.tmp 8) (.tmp 40)), none⟩]) (.seq (.seq (.draw [(⟨(some 41), (.loadN 3 (.tmp 8)), none⟩, false), (⟨(some 42), (.call (.func 38) [(.tmp 41)]), none⟩, false), (⟨(some 43), (.fieldAddr 0 (.tmp 8)), none⟩, false), (⟨(some 44), (.load (.tmp 43)), none⟩, false), (⟨(some 45), (.mov (.tmp 6)), none⟩, false), (⟨(some 46), (.cmp .gtr (.tmp 44) (.tmp 45)), none⟩, false), (⟨(some 47), (.call (.func 50) [(.tmp 46), (.const (.int .i64 9))]), none⟩, false), (⟨(some 48), (.buildSlice 1 2 [(.int .i64 0), (.int .i64 0)] [(0, (1, (.tmp 42))), (1, (1, (.tmp 47)))]), none⟩, false), (⟨(some 49), (.call (.func 49) [(.tmp 48)]), none⟩, false), (⟨(some 9), (.mov (.tmp 49)), none⟩, false)]) (.seq (.ops [⟨(some 50), (.mov (.tmp 9)), none⟩, ⟨(some 51), (.cmp .neq (.tmp 50) (.const (.int .i64 0))), none⟩]) (.cond (.tmp 51) (.seq (.ops [⟨(some 52), (.mov (.tmp 7)), none⟩, ⟨(some 53), (.mov (.tmp 9)), none⟩, ⟨(some 2), (.mov (.tmp 52)), none⟩, ⟨(some 3), (.mov (.tmp 53)), none⟩]) .ret) .skip))) (.ops [⟨(some 54), (.fieldAddr 0 (.tmp 8)), none⟩, ⟨(some 55), (.load (.tmp 54)), none⟩, ⟨(some 6), (.mov (.tmp 55)), none⟩])))) (.ops [⟨(some 56), (.arith .add (.tmp 36) (.const (.int .i64 1))), none⟩, ⟨(some 36), (.mov (.tmp 56)), none⟩]))))))) (.seq (.ops [⟨(some 2), (.mov (.const (.int .i64 0))), none⟩, ⟨(some 3), (.mov (.const (.int .i64 0))), none⟩]) .ret))))))), 57, [(.tmp 2), (.tmp 3)]⟩
theorem c76 : compileFn Go.Proofs.Tryz.prog Go.Proofs.Tryz.f76 = some R76 := by kernel_rfl
theorem n76 : R76.ntmps = 57 := rfl
theorem a76 {args : List Value} {H : AHeap} {Q : Value → AHeap → Prop} (h : AWP Go.Proofs.Tryz.prog none R76.code (Fin R76 Q) (args ++ List.replicate (R76.ntmps - args.length) undef) H) : ACall Go.Proofs.Tryz.prog 76 args H Q := acall_intro mo Go.Proofs.Tryz.func76 c76 h

def R77 : RFunc :=
  ⟨(.seq (.ops [⟨(some 2), (.box (.tmp 0)), none⟩]) (.seq (.ops [⟨(some 8), (.fieldAddr 0 (.tmp 2)), none⟩, ⟨(some 9), (.fieldAddr 2 (.tmp 8)), none⟩, ⟨(some 10), (.load (.tmp 9)), none⟩, ⟨(some 11), (.len (.tmp 10)), none⟩, ⟨(some 12), (.mov (.const (.int .i64 0))), none⟩]) (.block 0 (.loop (.seq (.ops [⟨(some 13), (.cmp .lss (.tmp 12) (.tmp 11)), none⟩]) (.seq (.cond (.tmp 13) .skip (.exit 0)) (.seq (.block 1 (.seq (.ops [⟨(some 14), (.mov (.tmp 12)), none⟩, ⟨(some 15), (.idxAddr 3 (.tmp 10) (.tmp 12)), none⟩, ⟨(some 16), (.loadN 3 (.tmp 15)), none⟩, ⟨(some 5), (.new [(.int .i64 0), (.int .i64 0), (.int .i64 0)]), none⟩, ⟨(some 4), (.mov (.tmp 14)), none⟩, ⟨none, (.store 3 (.tmp 5) (.tmp 16)), none⟩]) (.seq (.ops [⟨(some 17), (.fieldAddr 0 (.tmp 2)), none⟩, ⟨(some 18), (.fieldAddr 2 (.tmp 17)), none⟩, ⟨(some 19), (.load (.tmp 18)), none⟩, ⟨(some 20), (.mov (.tmp 4)), none⟩, ⟨(some 21), (.arith .add (.tmp 20) (.const (.int .i64 1))), none⟩, ⟨(some 22), (.slice 3 (.tmp 19) (some (.tmp 21)) none none), none⟩, ⟨(some 23), (.len (.tmp 22)), none⟩, ⟨(some 24), (.mov (.const (.int .i64 0))), none⟩]) (.block 2 (.loop (.seq (.ops [⟨(some 25), (.cmp .lss (.tmp 24) (.tmp 23)), none⟩]) (.seq (.cond (.tmp 25) .skip (.exit 2)) (.seq (.block 3 (.seq (.ops [⟨(some 26), (.mov (.tmp 24)), none⟩, ⟨(some 27), (.idxAddr 3 (.tmp 22) (.tmp 24)), none⟩, ⟨(some 28), (.loadN 3 (.tmp 27)), none⟩, ⟨(some 7), (.new [(.int .i64 0), (.int .i64 0), (.int .i64 0)]), none⟩, ⟨(some 6), (.mov (.tmp 26)), none⟩, ⟨none, (.store 3 (.tmp 7) (.tmp 28)), none⟩]) (.seq (.ops [⟨(some 29), (.loadN 3 (.tmp 2)), none⟩, ⟨(some 30), (.loadN 3 (.tmp 5)), none⟩, ⟨(some 31), (.loadN 3 (.tmp 7)), none⟩, ⟨(some 32), (.call (.func 96) [(.tmp 29), (.tmp 30), (.tmp 31)]), none⟩, ⟨(some 33), (.mov (.tmp 32)), none⟩, ⟨(some 34), (.mov (.tmp 1)), (some (33, true))⟩, ⟨(some 35), (.mov (.tmp 4)), (some (33, true))⟩, ⟨(some 36), (.mov (.tmp 4)), (some (33, true))⟩, ⟨(some 37), (.arith .add (.tmp 36) (.const (.int .i64 1))), (some (33, true))⟩, ⟨(some 38), (.mov (.tmp 6)), (some (33, true))⟩, ⟨(some 39), (.arith .add (.tmp 37) (.tmp 38)), (some (33, true))⟩, ⟨(some 40), (.call (.tmp 34) [(.tmp 35), (.tmp 39)]), (some (33, true))⟩, ⟨(some 41), (.not (.tmp 40)), (some (33, true))⟩, ⟨(some 42), (.pick (.tmp 33) (.tmp 41) (.const (.bool false))), none⟩]) (.cond (.tmp 42) .ret .skip)))) (.ops [⟨(some 43), (.arith .add (.tmp 24) (.const (.int .i64 1))), none⟩, ⟨(some 24), (.mov (.tmp 43)), none⟩]))))))))) (.ops [⟨(some 44), (.arith .add (.tmp 12) (.const (.int .i64 1))), none⟩, ⟨(some 12), (.mov (.tmp 44)), none⟩])))))))), 45, []⟩
theorem c77 : compileFn Go.Proofs.Tryz.prog Go.Proofs.Tryz.f77 = some R77 := by kernel_rfl
theorem n77 : R77.ntmps = 45 := rfl
theorem a77 {args : List Value} {H : AHeap} {Q : Value → AHeap → Prop} (h : AWP Go.Proofs.Tryz.prog none R77.code (Fin R77 Q) (args ++ List.replicate (R77.ntmps - args.length) undef) H) : ACall Go.Proofs.Tryz.prog 77 args H Q := acall_intro mo Go.Proofs.Tryz.func77 c77 h

def R78 : RFunc :=
  ⟨(.seq (.ops [⟨(some 3), (.box (.tmp 0)), none⟩, ⟨(some 4), (.box (.tmp 1)), none⟩, ⟨(some 6), (.new [(.int .i64 0), (.int .i64 0)]), none⟩]) (.seq (.ops [⟨(some 10), (.mov (.tmp 2)), none⟩, ⟨(some 11), (.fieldAddr 0 (.tmp 4)), none⟩, ⟨(some 12), (.load (.tmp 11)), none⟩, ⟨(some 13), (.arith .sub (.tmp 10) (.tmp 12)), none⟩, ⟨(some 7), (.mov (.tmp 13)), none⟩]) (.seq (.draw [(⟨(some 14), (.fieldAddr 0 (.tmp 3)), none⟩, false), (⟨(some 15), (.fieldAddr 0 (.tmp 14)), none⟩, false), (⟨(some 16), (.fieldAddr 0 (.tmp 15)), none⟩, false), (⟨(some 17), (.load (.tmp 16)), none⟩, false), (⟨(some 18), (.mov (.tmp 7)), none⟩, false), (⟨(some 19), (.arith .mul (.tmp 17) (.tmp 18)), none⟩, false), (⟨(some 20), (.fieldAddr 0 (.tmp 3)), none⟩, false), (⟨(some 21), (.fieldAddr 0 (.tmp 20)), none⟩, false), (⟨(some 22), (.fieldAddr 1 (.tmp 21)), none⟩, false), (⟨(some 23), (.load (.tmp 22)), none⟩, false), (⟨(some 24), (.mov (.tmp 7)), none⟩, false), (⟨(some 25), (.arith .mul (.tmp 23) (.tmp 24)), none⟩, false), (⟨(some 8), (.mov (.tmp 19)), none⟩, false), (⟨(some 9), (.mov (.tmp 25)), none⟩, false)]) (.seq (.ops [⟨(some 26), (.fieldAddr 1 (.tmp 4)), none⟩, ⟨(some 27), (.fieldAddr 0 (.tmp 26)), none⟩, ⟨(some 28), (.load (.tmp 27)), none⟩, ⟨(some 29), (.mov (.tmp 8)), none⟩, ⟨(some 30), (.mov (.tmp 9)), none⟩, ⟨(some 31), (.most false (.tmp 29) [(.tmp 30)]), none⟩, ⟨(some 32), (.arith .add (.tmp 28) (.tmp 31)), none⟩, ⟨(some 33), (.fieldAddr 1 (.tmp 4)), none⟩, ⟨(some 34), (.fieldAddr 1 (.tmp 33)), none⟩, ⟨(some 35), (.load (.tmp 34)), none⟩, ⟨(some 36), (.mov (.tmp 8)), none⟩, ⟨(some 37), (.mov (.tmp 9)), none⟩, ⟨(some 38), (.most true (.tmp 36) [(.tmp 37)]), none⟩, ⟨(some 39), (.arith .add (.tmp 35) (.tmp 38)), none⟩, ⟨(some 40), (.build [(.int .i64 0), (.int .i64 0)] [(0, (1, (.tmp 32))), (1, (1, (.tmp 39)))]), none⟩, ⟨none, (.store 2 (.tmp 6) (.tmp 40)), none⟩]) .ret)))), 41, [(.loadN 2 6)]⟩
theorem c78 : compileFn Go.Proofs.Tryz.prog Go.Proofs.Tryz.f78 = some R78 := by kernel_rfl
theorem n78 : R78.ntmps = 41 := rfl
theorem a78 {args : List Value} {H : AHeap} {Q : Value → AHeap → Prop} (h : AWP Go.Proofs.Tryz.prog none R78.code (Fin R78 Q) (args ++ List.replicate (R78.ntmps - args.length) undef) H) : ACall Go.Proofs.Tryz.prog 78 args H Q := acall_intro mo Go.Proofs.Tryz.func78 c78 h

def R79 : RFunc :=
  ⟨(.seq (.ops [⟨(some 4), (.mov (.const (.int .i64 0))), none⟩]) (.seq (.seq (.ops [⟨(some 6), (.mov (.tmp 0)), none⟩, ⟨(some 7), (.len (.tmp 6)), none⟩, ⟨(some 8), (.mov (.const (.int .i64 0))), none⟩]) (.block 0 (.loop (.seq (.ops [⟨(some 9), (.cmp .lss (.tmp 8) (.tmp 7)), none⟩]) (.seq (.cond (.tmp 9) .skip (.exit 0)) (.seq (.block 1 (.seq (.ops [⟨(some 10), (.mov (.tmp 8)), none⟩, ⟨(some 5), (.mov (.tmp 10)), none⟩]) (.seq (.ops [⟨(some 11), (.mov (.tmp 1)), none⟩, ⟨(some 12), (.mov (.tmp 0)), none⟩, ⟨(some 13), (.mov (.tmp 5)), none⟩, ⟨(some 14), (.idxAddr 3 (.tmp 12) (.tmp 13)), none⟩, ⟨(some 15), (.loadN 3 (.tmp 14)), none⟩, ⟨(some 16), (.call (.tmp 11) [(.tmp 15)]), none⟩]) (.cond (.tmp 16) (.seq (.ops [⟨(some 17), (.mov (.tmp 5)), none⟩, ⟨(some 4), (.mov (.tmp 17)), none⟩]) .ret) .skip)))) (.ops [⟨(some 18), (.arith .add (.tmp 8) (.const (.int .i64 1))), none⟩, ⟨(some 8), (.mov (.tmp 18)), none⟩]))))))) (.seq (.ops [⟨(some 4), (.mov (.const (.int .i64 (-1)))), none⟩]) .ret))), 19, [(.tmp 4)]⟩
theorem c79 : compileFn Go.Proofs.Tryz.prog Go.Proofs.Tryz.f79 = some R79 := by kernel_rfl
theorem n79 : R79.ntmps = 19 := rfl
theorem a79 {args : List Value} {H : AHeap} {Q : Value → AHeap → Prop} (h : AWP Go.Proofs.Tryz.prog none R79.code (Fin R79 Q) (args ++ List.replicate (R79.ntmps - args.length) undef) H) : ACall Go.Proofs.Tryz.prog 79 args H Q := acall_intro mo Go.Proofs.Tryz.func79 c79 h

def R80 : RFunc :=
  ⟨(.seq (.ops [⟨(some 4), (.load (.tmp 1)), none⟩, ⟨(some 5), (.len (.tmp 4)), none⟩, ⟨(some 6), (.arith .sub (.tmp 5) (.const (.int .i64 1))), none⟩, ⟨(some 3), (.mov (.tmp 6)), none⟩]) (.block 0 (.loop (.seq (.seq (.ops [⟨(some 7), (.mov (.tmp 3)), none⟩, ⟨(some 8), (.cmp .geq (.tmp 7) (.const (.int .i64 0))), none⟩]) (.cond (.tmp 8) .skip (.exit 0))) (.seq (.block 1 (.seq (.ops [⟨(some 11), (.mov (.tmp 0)), none⟩, ⟨(some 12), (.mov (.tmp 3)), none⟩, ⟨(some 13), (.load (.tmp 1)), none⟩, ⟨(some 14), (.mov (.tmp 3)), none⟩, ⟨(some 15), (.idxAddr 3 (.tmp 13) (.tmp 14)), none⟩, ⟨(some 16), (.loadN 3 (.tmp 15)), none⟩, ⟨(some 17), (.call (.tmp 11) [(.tmp 12), (.tmp 16)]), none⟩, ⟨(some 18), (.not (.tmp 17)), none⟩]) (.cond (.tmp 18) .ret .skip))) (.ops [⟨(some 9), (.mov (.tmp 3)), none⟩, ⟨(some 10), (.arith .sub (.tmp 9) (.const (.int .i64 1))), none⟩, ⟨(some 3), (.mov (.tmp 10)), none⟩])))))), 19, []⟩
theorem c80 : compileFn Go.Proofs.Tryz.prog Go.Proofs.Tryz.f80 = some R80 := by kernel_rfl
theorem n80 : R80.ntmps = 19 := rfl
theorem a80 {args : List Value} {H : AHeap} {Q : Value → AHeap → Prop} (h : AWP Go.Proofs.Tryz.prog none R80.code (Fin R80 Q) (args ++ List.replicate (R80.ntmps - args.length) undef) H) : ACall Go.Proofs.Tryz.prog 80 args H Q := acall_intro mo Go.Proofs.Tryz.func80 c80 h

def R81 : RFunc :=
  ⟨(.seq (.ops [⟨(some 4), (.box (.tmp 0)), none⟩, ⟨(some 7), (.box (.tmp 3)), none⟩, ⟨(some 8), (.mov (.const (.bool false))), none⟩]) (.seq (.ops [⟨(some 9), (.loadN 4 (.tmp 7)), none⟩, ⟨(some 10), (.fieldAddr 0 (.tmp 4)), none⟩, ⟨(some 11), (.fieldAddr 0 (.tmp 10)), none⟩, ⟨(some 12), (.loadN 2 (.tmp 11)), none⟩, ⟨(some 13), (.call (.func 97) [(.tmp 9), (.tmp 12)]), none⟩, ⟨(some 14), (.mov (.tmp 13)), none⟩, ⟨(some 15), (.fieldAddr 0 (.tmp 4)), (some (14, true))⟩, ⟨(some 16), (.fieldAddr 2 (.tmp 15)), (some (14, true))⟩, ⟨(some 17), (.load (.tmp 16)), (some (14, true))⟩, ⟨(some 18), (.mov (.tmp 1)), (some (14, true))⟩, ⟨(some 19), (.arith .add (.tmp 18) (.const (.int .i64 1))), (some (14, true))⟩, ⟨(some 20), (.mov (.tmp 2)), (some (14, true))⟩, ⟨(some 21), (.slice 3 (.tmp 17) (some (.tmp 19)) (some (.tmp 20)) none), (some (14, true))⟩, ⟨(some 22), (.mkFunc (.func 98) [] [(.tmp 7)]), (some (14, true))⟩, ⟨(some 23), (.call (.func 55) [(.tmp 21), (.tmp 22)]), (some (14, true))⟩, ⟨(some 24), (.not (.tmp 23)), (some (14, true))⟩, ⟨(some 25), (.pick (.tmp 14) (.tmp 24) (.const (.bool false))), none⟩, ⟨(some 8), (.mov (.tmp 25)), none⟩]) .ret)), 26, [(.tmp 8)]⟩
theorem c81 : compileFn Go.Proofs.Tryz.prog Go.Proofs.Tryz.f81 = some R81 := by kernel_rfl
theorem n81 : R81.ntmps = 26 := rfl
theorem a81 {args : List Value} {H : AHeap} {Q : Value → AHeap → Prop} (h : AWP Go.Proofs.Tryz.prog none R81.code (Fin R81 Q) (args ++ List.replicate (R81.ntmps - args.length) undef) H) : ACall Go.Proofs.Tryz.prog 81 args H Q := acall_intro mo Go.Proofs.Tryz.func81 c81 h

def R85 : RFunc :=
  ⟨(.seq (.seq (.ops [⟨(some 9), (.load (.tmp 1)), none⟩, ⟨(some 10), (.lenS (.tmp 9)), none⟩, ⟨(some 11), (.cmp .eql (.tmp 10) (.const (.int .i64 0))), none⟩]) (.cond (.tmp 11) (.seq (.block 0 (.loop (.seq (.seq (.ops [⟨(some 12), (.load (.tmp 2)), none⟩, ⟨(some 13), (.lenS (.tmp 12)), none⟩, ⟨(some 14), (.cmp .gtr (.tmp 13) (.const (.int .i64 0))), none⟩]) (.cond (.tmp 14) .skip (.exit 0))) (.block 1 (.seq (.ops [⟨(some 16), (.load (.tmp 2)), none⟩, ⟨(some 17), (.call (.func 86) [(.tmp 16)]), none⟩, ⟨(some 15), (.mov (.tmp 17)), none⟩, ⟨(some 18), (.extract (.tmp 15) 0), none⟩, ⟨(some 19), (.extract (.tmp 15) 1), none⟩, ⟨(some 5), (.mov (.tmp 18)), none⟩, ⟨(some 6), (.mov (.tmp 19)), none⟩]) (.seq (.seq (.ops [⟨(some 20), (.mov (.tmp 0)), none⟩, ⟨(some 21), (.load (.tmp 2)), none⟩, ⟨(some 22), (.mov (.tmp 6)), none⟩, ⟨(some 23), (.sliceS (.tmp 21) none (some (.tmp 22))), none⟩, ⟨(some 24), (.call (.tmp 20) [(.tmp 23)]), none⟩, ⟨(some 25), (.not (.tmp 24)), none⟩]) (.cond (.tmp 25) .ret .skip)) (.ops [⟨(some 26), (.load (.tmp 2)), none⟩, ⟨(some 27), (.mov (.tmp 6)), none⟩, ⟨(some 28), (.sliceS (.tmp 26) (some (.tmp 27)) none), none⟩, ⟨none, (.store 1 (.tmp 2) (.tmp 28)), none⟩]))))))) .ret) .skip)) (.seq (.block 2 (.loop (.block 3 (.seq (.ops [⟨(some 29), (.load (.tmp 2)), none⟩, ⟨(some 30), (.load (.tmp 1)), none⟩, ⟨(some 31), (.call (.func 87) [(.tmp 29), (.tmp 30)]), none⟩, ⟨(some 7), (.mov (.tmp 31)), none⟩]) (.seq (.seq (.ops [⟨(some 32), (.mov (.tmp 7)), none⟩, ⟨(some 33), (.cmp .lss (.tmp 32) (.const (.int .i64 0))), none⟩]) (.cond (.tmp 33) (.exit 2) .skip)) (.seq (.ops [⟨(some 34), (.load (.tmp 2)), none⟩, ⟨(some 35), (.mov (.tmp 7)), none⟩, ⟨(some 36), (.load (.tmp 3)), none⟩, ⟨(some 37), (.arith .add (.tmp 35) (.tmp 36)), none⟩, ⟨(some 38), (.sliceS (.tmp 34) none (some (.tmp 37))), none⟩, ⟨(some 8), (.mov (.tmp 38)), none⟩]) (.seq (.seq (.ops [⟨(some 39), (.mov (.tmp 0)), none⟩, ⟨(some 40), (.mov (.tmp 8)), none⟩, ⟨(some 41), (.call (.tmp 39) [(.tmp 40)]), none⟩, ⟨(some 42), (.not (.tmp 41)), none⟩]) (.cond (.tmp 42) .ret .skip)) (.ops [⟨(some 43), (.load (.tmp 2)), none⟩, ⟨(some 44), (.mov (.tmp 7)), none⟩, ⟨(some 45), (.load (.tmp 1)), none⟩, ⟨(some 46), (.lenS (.tmp 45)), none⟩, ⟨(some 47), (.arith .add (.tmp 44) (.tmp 46)), none⟩, ⟨(some 48), (.sliceS (.tmp 43) (some (.tmp 47)) none), none⟩, ⟨none, (.store 1 (.tmp 2) (.tmp 48)), none⟩])))))))) (.ops [⟨(some 49), (.mov (.tmp 0)), none⟩, ⟨(some 50), (.load (.tmp 2)), none⟩, ⟨(some 51), (.call (.tmp 49) [(.tmp 50)]), none⟩]))), 52, []⟩
theorem c85 : compileFn Go.Proofs.Tryz.prog Go.Proofs.Tryz.f85 = some R85 := by kernel_rfl
theorem n85 : R85.ntmps = 52 := rfl
theorem a85 {args : List Value} {H : AHeap} {Q : Value → AHeap → Prop} (h : AWP Go.Proofs.Tryz.prog none R85.code (Fin R85 Q) (args ++ List.replicate (R85.ntmps - args.length) undef) H) : ACall Go.Proofs.Tryz.prog 85 args H Q := acall_intro mo Go.Proofs.Tryz.func85 c85 h

end Go.Lq

namespace Go.Lq
open Go

def R93 : RFunc :=
  ⟨(.seq (.ops [⟨(some 4), (.fieldAddr 0 (.tmp 1)), none⟩, ⟨(some 5), (.load (.tmp 4)), none⟩, ⟨(some 6), (.len (.tmp 5)), none⟩, ⟨(some 7), (.arith .sub (.tmp 6) (.const (.int .i64 1))), none⟩, ⟨(some 8), (.mov (.const (.int .i64 0))), none⟩]) (.block 0 (.loop (.seq (.ops [⟨(some 9), (.cmp .lss (.tmp 8) (.tmp 7)), none⟩]) (.seq (.cond (.tmp 9) .skip (.exit 0)) (.seq (.block 1 (.seq (.ops [⟨(some 10), (.mov (.tmp 8)), none⟩, ⟨(some 3), (.mov (.tmp 10)), none⟩]) (.seq (.draw [(⟨(some 11), (.mov (.tmp 0)), none⟩, false), (⟨(some 12), (.mov (.tmp 3)), none⟩, false), (⟨(some 13), (.fieldAddr 0 (.tmp 1)), none⟩, false), (⟨(some 14), (.load (.tmp 13)), none⟩, false), (⟨(some 15), (.mov (.tmp 3)), none⟩, false), (⟨(some 16), (.idxAddr 2 (.tmp 14) (.tmp 15)), none⟩, false), (⟨(some 17), (.loadN 2 (.tmp 16)), none⟩, false), (⟨(some 18), (.fieldAddr 0 (.tmp 1)), none⟩, false), (⟨(some 19), (.load (.tmp 18)), none⟩, false), (⟨(some 20), (.mov (.tmp 3)), none⟩, false), (⟨(some 21), (.arith .add (.tmp 20) (.const (.int .i64 1))), none⟩, false), (⟨(some 22), (.idxAddr 2 (.tmp 19) (.tmp 21)), none⟩, false), (⟨(some 23), (.loadN 2 (.tmp 22)), none⟩, false), (⟨(some 24), (.build [(.int .i64 0), (.int .i64 0), (.int .i64 0), (.int .i64 0)] [(0, (2, (.tmp 17))), (2, (2, (.tmp 23)))]), none⟩, false), (⟨(some 25), (.call (.tmp 11) [(.tmp 12), (.tmp 24)]), none⟩, true), (⟨(some 26), (.not (.tmp 25)), none⟩, false)]) (.cond (.tmp 26) .ret .skip)))) (.ops [⟨(some 27), (.arith .add (.tmp 8) (.const (.int .i64 1))), none⟩, ⟨(some 8), (.mov (.tmp 27)), none⟩]))))))), 28, []⟩
theorem c93 : compileFn Go.Proofs.Tryz.prog Go.Proofs.Tryz.f93 = some R93 := by kernel_rfl
theorem n93 : R93.ntmps = 28 := rfl
theorem a93 {args : List Value} {H : AHeap} {Q : Value → AHeap → Prop} (h : AWP Go.Proofs.Tryz.prog none R93.code (Fin R93 Q) (args ++ List.replicate (R93.ntmps - args.length) undef) H) : ACall Go.Proofs.Tryz.prog 93 args H Q := acall_intro mo Go.Proofs.Tryz.func93 c93 h

def R94 : RFunc :=
  ⟨(.seq (.ops [⟨(some 2), (.mov (.const (.int .i64 0))), none⟩]) (.seq (.seq (.ops [⟨(some 3), (.mov (.tmp 0)), none⟩, ⟨(some 4), (.cmp .geq (.tmp 3) (.const (.int .u64 4294967296))), none⟩]) (.cond (.tmp 4) (.seq (.ops [⟨(some 5), (.mov (.tmp 0)), none⟩, ⟨(some 6), (.shr (.tmp 5) (.const (.int .u64 32))), none⟩, ⟨(some 0), (.mov (.tmp 6)), none⟩]) (.ops [⟨(some 2), (.mov (.const (.int .i64 32))), none⟩])) .skip)) (.seq (.seq (.ops [⟨(some 7), (.mov (.tmp 0)), none⟩, ⟨(some 8), (.cmp .geq (.tmp 7) (.const (.int .u64 65536))), none⟩]) (.cond (.tmp 8) (.seq (.ops [⟨(some 9), (.mov (.tmp 0)), none⟩, ⟨(some 10), (.shr (.tmp 9) (.const (.int .u64 16))), none⟩, ⟨(some 0), (.mov (.tmp 10)), none⟩]) (.ops [⟨(some 11), (.mov (.tmp 2)), none⟩, ⟨(some 12), (.arith .add (.tmp 11) (.const (.int .i64 16))), none⟩, ⟨(some 2), (.mov (.tmp 12)), none⟩])) .skip)) (.seq (.seq (.ops [⟨(some 13), (.mov (.tmp 0)), none⟩, ⟨(some 14), (.cmp .geq (.tmp 13) (.const (.int .u64 256))), none⟩]) (.cond (.tmp 14) (.seq (.ops [⟨(some 15), (.mov (.tmp 0)), none⟩, ⟨(some 16), (.shr (.tmp 15) (.const (.int .u64 8))), none⟩, ⟨(some 0), (.mov (.tmp 16)), none⟩]) (.ops [⟨(some 17), (.mov (.tmp 2)), none⟩, ⟨(some 18), (.arith .add (.tmp 17) (.const (.int .i64 8))), none⟩, ⟨(some 2), (.mov (.tmp 18)), none⟩])) .skip)) (.seq (.ops [⟨(some 19), (.mov (.tmp 2)), none⟩, ⟨(some 20), (.mov (.tmp 0)), none⟩, ⟨(some 21), (.conv .u8 (.tmp 20)), none⟩, ⟨(some 22), (.idxS (.const (.string ⟨#[0, 1, 2, 2, 3, 3, 3, 3, 4, 4, 4, 4, 4, 4, 4, 4, 5, 5, 5, 5, 5, 5, 5, 5, 5, 5, 5, 5, 5, 5, 5, 5, 6, 6, 6, 6, 6, 6, 6, 6, 6, 6, 6, 6, 6, 6, 6, 6, 6, 6, 6, 6, 6, 6, 6, 6, 6, 6, 6, 6, 6, 6, 6, 6, 7, 7, 7, 7, 7, 7, 7, 7, 7, 7, 7, 7, 7, 7, 7, 7, 7, 7, 7, 7, 7, 7, 7, 7, 7, 7, 7, 7, 7, 7, 7, 7, 7, 7, 7, 7, 7, 7, 7, 7, 7, 7, 7, 7, 7, 7, 7, 7, 7, 7, 7, 7, 7, 7, 7, 7, 7, 7, 7, 7, 7, 7, 7, 7, 8, 8, 8, 8, 8, 8, 8, 8, 8, 8, 8, 8, 8, 8, 8, 8, 8, 8, 8, 8, 8, 8, 8, 8, 8, 8, 8, 8, 8, 8, 8, 8, 8, 8, 8, 8, 8, 8, 8, 8, 8, 8, 8, 8, 8, 8, 8, 8, 8, 8, 8, 8, 8, 8, 8, 8, 8, 8, 8, 8, 8, 8, 8, 8, 8, 8, 8, 8, 8, 8, 8, 8, 8, 8, 8, 8, 8, 8, 8, 8, 8, 8, 8, 8, 8, 8, 8, 8, 8, 8, 8, 8, 8, 8, 8, 8, 8, 8, 8, 8, 8, 8, 8, 8, 8, 8, 8, 8, 8, 8, 8, 8, 8, 8, 8, 8, 8, 8, 8, 8, 8, 8, 8, 8, 8, 8, 8, 8]⟩)) (.tmp 21)), none⟩, ⟨(some 23), (.conv .i64 (.tmp 22)), none⟩, ⟨(some 24), (.arith .add (.tmp 19) (.tmp 23)), none⟩, ⟨(some 2), (.mov (.tmp 24)), none⟩]) .ret))))), 25, [(.tmp 2)]⟩
theorem c94 : compileFn Go.Proofs.Tryz.prog Go.Proofs.Tryz.f94 = some R94 := by kernel_rfl
theorem n94 : R94.ntmps = 25 := rfl
theorem a94 {args : List Value} {H : AHeap} {Q : Value → AHeap → Prop} (h : AWP Go.Proofs.Tryz.prog none R94.code (Fin R94 Q) (args ++ List.replicate (R94.ntmps - args.length) undef) H) : ACall Go.Proofs.Tryz.prog 94 args H Q := acall_intro mo Go.Proofs.Tryz.func94 c94 h

def R95 : RFunc :=
  ⟨(.seq (.ops [⟨(some 2), (.mov (.const (.bool false))), none⟩]) (.seq (.ops [⟨(some 3), (.mov (.tmp 0)), none⟩, ⟨(some 4), (.call (.func 43) [(.tmp 3), (.const (.int .i64 1)), (.const (.int .i64 100000))]), none⟩, ⟨(some 2), (.mov (.tmp 4)), none⟩]) .ret)), 5, [(.tmp 2)]⟩
theorem c95 : compileFn Go.Proofs.Tryz.prog Go.Proofs.Tryz.f95 = some R95 := by kernel_rfl
theorem n95 : R95.ntmps = 5 := rfl
theorem a95 {args : List Value} {H : AHeap} {Q : Value → AHeap → Prop} (h : AWP Go.Proofs.Tryz.prog none R95.code (Fin R95 Q) (args ++ List.replicate (R95.ntmps - args.length) undef) H) : ACall Go.Proofs.Tryz.prog 95 args H Q := acall_intro mo Go.Proofs.Tryz.func95 c95 h

def R96 : RFunc :=
  ⟨(.seq (.ops [⟨(some 3), (.box (.tmp 0)), none⟩, ⟨(some 4), (.box (.tmp 1)), none⟩, ⟨(some 5), (.box (.tmp 2)), none⟩, ⟨(some 6), (.mov (.const (.bool false))), none⟩]) (.seq (.ops [⟨(some 8), (.loadN 3 (.tmp 3)), none⟩, ⟨(some 9), (.loadN 3 (.tmp 4)), none⟩, ⟨(some 10), (.fieldAddr 0 (.tmp 5)), none⟩, ⟨(some 11), (.load (.tmp 10)), none⟩, ⟨(some 12), (.call (.func 78) [(.tmp 8), (.tmp 9), (.tmp 11)]), none⟩, ⟨(some 7), (.new [(.int .i64 0), (.int .i64 0)]), none⟩, ⟨none, (.store 2 (.tmp 7) (.tmp 12)), none⟩]) (.seq (.ops [⟨(some 13), (.fieldAddr 1 (.tmp 7)), none⟩, ⟨(some 14), (.load (.tmp 13)), none⟩, ⟨(some 15), (.fieldAddr 1 (.tmp 5)), none⟩, ⟨(some 16), (.fieldAddr 0 (.tmp 15)), none⟩, ⟨(some 17), (.load (.tmp 16)), none⟩, ⟨(some 18), (.cmp .lss (.tmp 14) (.tmp 17)), none⟩, ⟨(some 19), (.mov (.tmp 18)), none⟩, ⟨(some 20), (.fieldAddr 1 (.tmp 5)), (some (19, false))⟩, ⟨(some 21), (.fieldAddr 1 (.tmp 20)), (some (19, false))⟩, ⟨(some 22), (.load (.tmp 21)), (some (19, false))⟩, ⟨(some 23), (.fieldAddr 0 (.tmp 7)), (some (19, false))⟩, ⟨(some 24), (.load (.tmp 23)), (some (19, false))⟩, ⟨(some 25), (.cmp .lss (.tmp 22) (.tmp 24)), (some (19, false))⟩, ⟨(some 26), (.pick (.tmp 19) (.const (.bool true)) (.tmp 25)), none⟩, ⟨(some 6), (.mov (.tmp 26)), none⟩]) .ret))), 27, [(.tmp 6)]⟩
theorem c96 : compileFn Go.Proofs.Tryz.prog Go.Proofs.Tryz.f96 = some R96 := by kernel_rfl
theorem n96 : R96.ntmps = 27 := rfl
theorem a96 {args : List Value} {H : AHeap} {Q : Value → AHeap → Prop} (h : AWP Go.Proofs.Tryz.prog none R96.code (Fin R96 Q) (args ++ List.replicate (R96.ntmps - args.length) undef) H) : ACall Go.Proofs.Tryz.prog 96 args H Q := acall_intro mo Go.Proofs.Tryz.func96 c96 h

def R97 : RFunc :=
  ⟨(.seq (.ops [⟨(some 2), (.box (.tmp 0)), none⟩, ⟨(some 3), (.box (.tmp 1)), none⟩, ⟨(some 4), (.mov (.const (.bool false))), none⟩]) (.seq (.draw [(⟨(some 5), (.loadN 4 (.tmp 2)), none⟩, false), (⟨(some 6), (.call (.func 47) [(.tmp 5)]), none⟩, false), (⟨(some 7), (.fieldAddr 0 (.tmp 3)), none⟩, false), (⟨(some 8), (.load (.tmp 7)), none⟩, false), (⟨(some 9), (.loadN 4 (.tmp 2)), none⟩, false), (⟨(some 10), (.call (.func 45) [(.tmp 9)]), none⟩, false), (⟨(some 11), (.arith .mul (.tmp 8) (.tmp 10)), none⟩, false), (⟨(some 12), (.fieldAddr 1 (.tmp 3)), none⟩, false), (⟨(some 13), (.load (.tmp 12)), none⟩, false), (⟨(some 14), (.loadN 4 (.tmp 2)), none⟩, false), (⟨(some 15), (.call (.func 45) [(.tmp 14)]), none⟩, false), (⟨(some 16), (.arith .mul (.tmp 13) (.tmp 15)), none⟩, false), (⟨(some 17), (.call (.func 43) [(.tmp 6), (.tmp 11), (.tmp 16)]), none⟩, false), (⟨(some 4), (.mov (.tmp 17)), none⟩, false)]) .ret)), 18, [(.tmp 4)]⟩
theorem c97 : compileFn Go.Proofs.Tryz.prog Go.Proofs.Tryz.f97 = some R97 := by kernel_rfl
theorem n97 : R97.ntmps = 18 := rfl
theorem a97 {args : List Value} {H : AHeap} {Q : Value → AHeap → Prop} (h : AWP Go.Proofs.Tryz.prog none R97.code (Fin R97 Q) (args ++ List.replicate (R97.ntmps - args.length) undef) H) : ACall Go.Proofs.Tryz.prog 97 args H Q := acall_intro mo Go.Proofs.Tryz.func97 c97 h

def R98 : RFunc :=
  ⟨(.seq (.ops [⟨(some 2), (.box (.tmp 0)), none⟩, ⟨(some 3), (.mov (.const (.bool false))), none⟩]) (.seq (.ops [⟨(some 4), (.loadN 4 (.tmp 1)), none⟩, ⟨(some 5), (.loadN 3 (.tmp 2)), none⟩, ⟨(some 6), (.call (.func 99) [(.tmp 4), (.tmp 5)]), none⟩, ⟨(some 7), (.not (.tmp 6)), none⟩, ⟨(some 3), (.mov (.tmp 7)), none⟩]) .ret)), 8, [(.tmp 3)]⟩
theorem c98 : compileFn Go.Proofs.Tryz.prog Go.Proofs.Tryz.f98 = some R98 := by kernel_rfl
theorem n98 : R98.ntmps = 8 := rfl
theorem a98 {args : List Value} {H : AHeap} {Q : Value → AHeap → Prop} (h : AWP Go.Proofs.Tryz.prog none R98.code (Fin R98 Q) (args ++ List.replicate (R98.ntmps - args.length) undef) H) : ACall Go.Proofs.Tryz.prog 98 args H Q := acall_intro mo Go.Proofs.Tryz.func98 c98 h

def R99 : RFunc :=
  ⟨(.seq (.ops [⟨(some 2), (.box (.tmp 0)), none⟩, ⟨(some 3), (.box (.tmp 1)), none⟩, ⟨(some 4), (.mov (.const (.bool false))), none⟩]) (.seq (.draw [(⟨(some 5), (.loadN 4 (.tmp 2)), none⟩, false), (⟨(some 6), (.fieldAddr 0 (.tmp 3)), none⟩, false), (⟨(some 7), (.load (.tmp 6)), none⟩, false), (⟨(some 8), (.call (.func 58) [(.tmp 5), (.tmp 7)]), none⟩, false), (⟨(some 9), (.fieldAddr 1 (.tmp 3)), none⟩, false), (⟨(some 10), (.fieldAddr 0 (.tmp 9)), none⟩, false), (⟨(some 11), (.load (.tmp 10)), none⟩, false), (⟨(some 12), (.loadN 4 (.tmp 2)), none⟩, false), (⟨(some 13), (.call (.func 45) [(.tmp 12)]), none⟩, false), (⟨(some 14), (.arith .mul (.tmp 11) (.tmp 13)), none⟩, false), (⟨(some 15), (.fieldAddr 1 (.tmp 3)), none⟩, false), (⟨(some 16), (.fieldAddr 1 (.tmp 15)), none⟩, false), (⟨(some 17), (.load (.tmp 16)), none⟩, false), (⟨(some 18), (.loadN 4 (.tmp 2)), none⟩, false), (⟨(some 19), (.call (.func 45) [(.tmp 18)]), none⟩, false), (⟨(some 20), (.arith .mul (.tmp 17) (.tmp 19)), none⟩, false), (⟨(some 21), (.call (.func 43) [(.tmp 8), (.tmp 14), (.tmp 20)]), none⟩, false), (⟨(some 4), (.mov (.tmp 21)), none⟩, false)]) .ret)), 22, [(.tmp 4)]⟩
theorem c99 : compileFn Go.Proofs.Tryz.prog Go.Proofs.Tryz.f99 = some R99 := by kernel_rfl
theorem n99 : R99.ntmps = 22 := rfl
theorem a99 {args : List Value} {H : AHeap} {Q : Value → AHeap → Prop} (h : AWP Go.Proofs.Tryz.prog none R99.code (Fin R99 Q) (args ++ List.replicate (R99.ntmps - args.length) undef) H) : ACall Go.Proofs.Tryz.prog 99 args H Q := acall_intro mo Go.Proofs.Tryz.func99 c99 h

def R127 : RFunc :=
  ⟨(.seq (.ops [⟨(some 2), (.mov (.const (.int .i64 0))), none⟩]) (.seq (.seq (.ops [⟨(some 3), (.mov (.tmp 0)), none⟩, ⟨(some 4), (.cmp .eql (.tmp 3) (.const (.int .u32 0))), none⟩]) (.cond (.tmp 4) (.seq (.ops [⟨(some 2), (.mov (.const (.int .i64 32))), none⟩]) .ret) .skip)) (.seq (.ops [⟨(some 5), (.mov (.tmp 0)), none⟩, ⟨(some 6), (.mov (.tmp 0)), none⟩, ⟨(some 7), (.neg (.tmp 6)), none⟩, ⟨(some 8), (.band (.tmp 5) (.tmp 7)), none⟩, ⟨(some 9), (.arith .mul (.tmp 8) (.const (.int .u32 125613361))), none⟩, ⟨(some 10), (.shr (.tmp 9) (.const (.int .u64 27))), none⟩, ⟨(some 11), (.idxAddrA 32 1 (.global 8) (.tmp 10)), none⟩, ⟨(some 12), (.load (.tmp 11)), none⟩, ⟨(some 13), (.conv .i64 (.tmp 12)), none⟩, ⟨(some 2), (.mov (.tmp 13)), none⟩]) .ret))), 14, [(.tmp 2)]⟩
theorem c127 : compileFn Go.Proofs.Tryz.prog Go.Proofs.Tryz.f127 = some R127 := by kernel_rfl
theorem a127 {args : List Value} {H : AHeap} {Q : Value → AHeap → Prop} (h : AWP Go.Proofs.Tryz.prog none R127.code (Fin R127 Q) (args ++ List.replicate (R127.ntmps - args.length) undef) H) : ACall Go.Proofs.Tryz.prog 127 args H Q := acall_intro mo Go.Proofs.Tryz.func127 c127 h

end Go.Lq

namespace Go.Lq
open Go

section
variable {H : AHeap}

theorem bwithin_c (n lo hi : Int) : ACall Go.Proofs.Tryz.prog 73 [.int .i64 n, .int .i64 lo, .int .i64 hi] H fun v H' => v = .bool (decide (lo ≤ n ∧ n ≤ hi)) ∧ H' = H := by
  (refine a73 ?_; simp only [n73, List.replicate, yq, yr, yt, yu]; first | refine q1 ?_ | refine q2 ?_ | refine q6 ?_ | refine q7 ?_ | refine qh rfl ?_ | skip)
  refine yx ?_; (refine aops_until (by simp (disch := first|exact zz|fail) only [go_sem]; with_reducible rfl) ?_); refine yx ?_
  by_cases h : lo ≤ n
  · (refine aops_until (by simp (disch := first|exact zz|fail) only [go_sem, h]; with_reducible rfl) ?_)
    refine yx ?_
    refine fin_1 ⟨?_, rfl⟩
    simp [h]
  · (refine aops_until (by simp (disch := first|exact zz|fail) only [go_sem, h]; with_reducible rfl) ?_)
    refine yx ?_
    refine fin_1 ⟨?_, rfl⟩
    simp [h]

def firstErr (l : List Int) : Int := (l.find? (fun e => decide (e ≠ 0))).getD 0

theorem firstErr_nil : firstErr [] = 0 := rfl
theorem firstErr_z (l : List Int) : firstErr (0 :: l) = firstErr l := by simp [firstErr]
theorem firstErr_e {e : Int} (h : e ≠ 0) (l : List Int) : firstErr (e :: l) = e := by simp [firstErr, h]
theorem ite_tt {α : Type} (a b : α) : (if true = true then a else b) = a := rfl
theorem ite_ft {α : Type} (a b : α) : (if false = true then a else b) = b := rfl
attribute [go_sem] firstErr_nil firstErr_z firstErr_e ite_tt ite_ft if_true if_false

end
end Go.Lq

namespace Go.Lq

def nodeE (p n : Int × Int) : Int := firstErr [(if (0 ≤ n.1 ∧ n.1 ≤ 1000000) ∧ (0 ≤ n.2 ∧ n.2 ≤ 1000000000000) then 0 else 2), (if p.1 < n.1 ∧ p.2 < n.2 then 0 else 9)]
def ckGo (p : Int × Int) (i : Nat) : List (Int × Int) → Int × Int
  | [] => (0, 0)
  | n :: r => if nodeE p n ≠ 0 then (i, nodeE p n) else ckGo n (i + 1) r
def ckMap (l : List (Int × Int)) : Int × Int := if l.length < 2 then (0, 10) else if 20 < l.length then (0, 8) else ckGo (-1, -1) 0 l
def mapErrL (l : List (Int × Int)) : Int := (ckMap l).2
def prevAt (l : List (Int × Int)) (i : Nat) : Int × Int := if i = 0 then (-1, -1) else l.getD (i - 1) (0, 0)

theorem drop_pair {l : List (Int × Int)} {i : Nat} (h : i < l.length) : l.drop i = l.getD i (0, 0) :: l.drop (i + 1) := by
  rw [List.drop_eq_getElem_cons h, List.getD_eq_getElem?_getD, List.getElem?_eq_getElem h]; rfl
theorem prevAt_succ {l : List (Int × Int)} {i : Nat} : prevAt l (i + 1) = l.getD i (0, 0) := by unfold prevAt; rw [if_neg (by omega), Nat.add_sub_cancel]
theorem ckGo_at {l : List (Int × Int)} {i : Nat} (h : i < l.length) : ckGo (prevAt l i) i (l.drop i) = if nodeE (prevAt l i) (l.getD i (0, 0)) ≠ 0 then ((i : Int), nodeE (prevAt l i) (l.getD i (0, 0))) else ckGo (prevAt l (i + 1)) (i + 1) (l.drop (i + 1)) := by
  rw [drop_pair h, prevAt_succ]; rfl
theorem ckGo_end {p : Int × Int} {l : List (Int × Int)} {i : Nat} : ckGo p i (l.drop l.length) = (0, 0) := by rw [List.drop_length]; rfl
theorem nodeE_ok {p n : Int × Int} (h : nodeE p n = 0) : ((0 ≤ n.1 ∧ n.1 ≤ 1000000) ∧ (0 ≤ n.2 ∧ n.2 ≤ 1000000000000)) ∧ p.1 < n.1 ∧ p.2 < n.2 := by
  unfold nodeE firstErr at h
  by_cases h1 : (0 ≤ n.1 ∧ n.1 ≤ 1000000) ∧ (0 ≤ n.2 ∧ n.2 ≤ 1000000000000)
  · refine ⟨h1, ?_⟩
    by_cases h2 : p.1 < n.1 ∧ p.2 < n.2
    · exact h2
    · rw [if_pos h1, if_neg h2] at h; simp at h
  · rw [if_neg h1] at h; simp at h
theorem nodeE_r {p n : Int × Int} (h : ¬ ((0 ≤ n.1 ∧ n.1 ≤ 1000000) ∧ (0 ≤ n.2 ∧ n.2 ≤ 1000000000000))) : nodeE p n = 2 := by unfold nodeE firstErr; rw [if_neg h]; simp
theorem nodeE_o {p n : Int × Int} (h : (0 ≤ n.1 ∧ n.1 ≤ 1000000) ∧ (0 ≤ n.2 ∧ n.2 ≤ 1000000000000)) (h2 : ¬ (p.1 < n.1 ∧ p.2 < n.2)) : nodeE p n = 9 := by unfold nodeE firstErr; rw [if_pos h, if_neg h2]; simp
theorem nodeE_z {p n : Int × Int} (h : (0 ≤ n.1 ∧ n.1 ≤ 1000000) ∧ (0 ≤ n.2 ∧ n.2 ≤ 1000000000000)) (h2 : p.1 < n.1 ∧ p.2 < n.2) : nodeE p n = 0 := by unfold nodeE firstErr; rw [if_pos h, if_pos h2]; simp
theorem ckGo_from {l : List (Int × Int)} : ∀ {i : Nat}, (∀ j, j < i → nodeE (prevAt l j) (l.getD j (0, 0)) = 0) → i ≤ l.length → ckGo (-1, -1) 0 l = ckGo (prevAt l i) i (l.drop i)
  | 0, _, _ => rfl
  | i + 1, h, hi => by
    rw [ckGo_from (i := i) (fun j hj => h j (by omega)) (by omega), ckGo_at (by omega), if_neg (by rw [h i (by omega)]; simp)]
theorem ckGo_ok {l : List (Int × Int)} : ∀ {k i : Nat}, i + k = l.length → (ckGo (prevAt l i) i (l.drop i)).2 = 0 → ∀ j, i ≤ j → j < l.length → nodeE (prevAt l j) (l.getD j (0, 0)) = 0
  | 0, i, hk, _, j, h1, h2 => by omega
  | k + 1, i, hk, h, j, h1, h2 => by
    rw [ckGo_at (by omega)] at h
    by_cases he : nodeE (prevAt l i) (l.getD i (0, 0)) = 0
    · rw [if_neg (by rw [he]; simp)] at h
      by_cases hj : j = i
      · subst hj; exact he
      · exact ckGo_ok (k := k) (i := i + 1) (by omega) h j (by omega) h2
    · rw [if_pos he] at h; exact absurd h he

structure MapOk (l : List (Int × Int)) : Prop where
  lo : 2 ≤ l.length
  hi : l.length ≤ 20
  pos : ∀ i, i < l.length → 0 ≤ (l.getD i (0, 0)).1 ∧ (l.getD i (0, 0)).1 ≤ 1000000
  time : ∀ i, i < l.length → 0 ≤ (l.getD i (0, 0)).2 ∧ (l.getD i (0, 0)).2 ≤ 1000000000000
  posUp : ∀ i, i + 1 < l.length → (l.getD i (0, 0)).1 < (l.getD (i + 1) (0, 0)).1
  timeUp : ∀ i, i + 1 < l.length → (l.getD i (0, 0)).2 < (l.getD (i + 1) (0, 0)).2
theorem mapErr_ok {l : List (Int × Int)} (h : mapErrL l = 0) : MapOk l := by
  unfold mapErrL ckMap at h
  by_cases h1 : l.length < 2
  · rw [if_pos h1] at h; simp at h
  by_cases h2 : 20 < l.length
  · rw [if_neg h1, if_pos h2] at h; simp at h
  rw [if_neg h1, if_neg h2] at h
  have hk := fun j hj => nodeE_ok (ckGo_ok (l := l) (k := l.length) (i := 0) (by omega) h j (Nat.zero_le _) hj)
  refine ⟨by omega, by omega, fun i hi => (hk i hi).1.1, fun i hi => (hk i hi).1.2, fun i hi => ?_, fun i hi => ?_⟩
  · have := (hk (i + 1) hi).2.1; rwa [prevAt_succ] at this
  · have := (hk (i + 1) hi).2.2; rwa [prevAt_succ] at this
theorem MapOk.posLt {l : List (Int × Int)} (h : MapOk l) : ∀ {k i : Nat}, i + k + 1 < l.length → (l.getD i (0, 0)).1 < (l.getD (i + k + 1) (0, 0)).1
  | 0, i, hi => h.posUp i hi
  | k + 1, i, hi => Int.lt_trans (h.posLt (k := k) (by omega)) (h.posUp (i + k + 1) hi)
theorem MapOk.timeLt {l : List (Int × Int)} (h : MapOk l) : ∀ {k i : Nat}, i + k + 1 < l.length → (l.getD i (0, 0)).2 < (l.getD (i + k + 1) (0, 0)).2
  | 0, i, hi => h.timeUp i hi
  | k + 1, i, hi => Int.lt_trans (h.timeLt (k := k) (by omega)) (h.timeUp (i + k + 1) hi)
theorem MapOk.posLe {l : List (Int × Int)} (h : MapOk l) {i j : Nat} (hij : i ≤ j) (hj : j < l.length) : (l.getD i (0, 0)).1 ≤ (l.getD j (0, 0)).1 := by
  by_cases e : i = j
  · subst e; omega
  · have := h.posLt (k := j - i - 1) (i := i) (by omega)
    rw [show i + (j - i - 1) + 1 = j by omega] at this; omega
theorem MapOk.timeLe {l : List (Int × Int)} (h : MapOk l) {i j : Nat} (hij : i ≤ j) (hj : j < l.length) : (l.getD i (0, 0)).2 ≤ (l.getD j (0, 0)).2 := by
  by_cases e : i = j
  · subst e; omega
  · have := h.timeLt (k := j - i - 1) (i := i) (by omega)
    rw [show i + (j - i - 1) + 1 = j by omega] at this; omega

def pieceOf (l : List (Int × Int)) (i : Nat) : (Int × Int) × (Int × Int) := (l.getD i (0, 0), l.getD (i + 1) (0, 0))
def findP (p : (Int × Int) × (Int × Int) → Bool) (l : List (Int × Int)) (i : Nat) : Nat → Option Nat
  | 0 => none
  | k + 1 => if p (pieceOf l i) = true then some i else findP p l (i + 1) k
def inTime (t : Int) (p : (Int × Int) × (Int × Int)) : Bool := decide (p.1.2 ≤ t ∧ t ≤ p.2.2)
theorem findP_some {p : (Int × Int) × (Int × Int) → Bool} {l : List (Int × Int)} : ∀ {k i j : Nat}, findP p l i k = some j → i ≤ j ∧ j < i + k ∧ p (pieceOf l j) = true ∧ ∀ m, i ≤ m → m < j → p (pieceOf l m) = false
  | 0, i, j, h => by simp [findP] at h
  | k + 1, i, j, h => by
    unfold findP at h
    by_cases hp : p (pieceOf l i) = true
    · rw [if_pos hp] at h
      obtain rfl := Option.some.inj h
      exact ⟨Nat.le_refl _, by omega, hp, fun m h1 h2 => by omega⟩
    · rw [if_neg hp] at h
      obtain ⟨h1, h2, h3, h4⟩ := findP_some h
      refine ⟨by omega, by omega, h3, fun m h5 h6 => ?_⟩
      by_cases e : m = i
      · subst e; simpa using hp
      · exact h4 m (by omega) h6
end Go.Lq

namespace Go.Lq

def posN (p : (Int × Int) × (Int × Int)) (t : Int) : Int := (t - p.1.2) * (64 * (p.2.1 - p.1.1))
def posLo (p : (Int × Int) × (Int × Int)) (t : Int) : Int := 64 * p.1.1 + posN p t / (p.2.2 - p.1.2)
def posHi (p : (Int × Int) × (Int × Int)) (t : Int) : Int := if posN p t % (p.2.2 - p.1.2) = 0 then posLo p t else posLo p t + 1
end Go.Lq

namespace Go.Lq

def atPos (l : List (Int × Int)) (t : Int) (i : Nat) : Nat → Nat
  | 0 => i
  | k + 1 => if (l.getD (i + 1) (0, 0)).1 < t then atPos l t (i + 1) k else i
theorem atPos_succ {l : List (Int × Int)} {t : Int} {i k : Nat} : atPos l t i (k + 1) = if (l.getD (i + 1) (0, 0)).1 < t then atPos l t (i + 1) k else i := rfl
theorem atPos_in {l : List (Int × Int)} {t : Int} : ∀ {k i : Nat}, i + k + 1 < l.length → (l.getD i (0, 0)).1 ≤ t → atPos l t i k + 1 < l.length ∧ (l.getD (atPos l t i k) (0, 0)).1 ≤ t
  | 0, i, h, h2 => ⟨by show i + 1 < _; omega, h2⟩
  | k + 1, i, h, h2 => by
    rw [atPos_succ]
    split
    · exact atPos_in (by omega) (by omega)
    · exact ⟨by omega, h2⟩
theorem atPos_up {l : List (Int × Int)} {t : Int} : ∀ {k i : Nat}, i + k + 2 = l.length → t ≤ (l.getD (l.length - 1) (0, 0)).1 → t ≤ (l.getD (atPos l t i k + 1) (0, 0)).1
  | 0, i, h, ht => by
    show t ≤ (l.getD (i + 1) (0, 0)).1
    rwa [show l.length - 1 = i + 1 by omega] at ht
  | k + 1, i, h, ht => by
    rw [atPos_succ]
    split
    · exact atPos_up (by omega) ht
    · omega
def timN (p : (Int × Int) × (Int × Int)) (n : Int) : Int := p.1.2 * (p.2.1 - p.1.1) + (p.2.2 - p.1.2) * (n - p.1.1)
def timLo (p : (Int × Int) × (Int × Int)) (n : Int) : Int := timN p n / (p.2.1 - p.1.1)
def timHi (p : (Int × Int) × (Int × Int)) (n : Int) : Int := -(-timN p n / (p.2.1 - p.1.1))
theorem timLo_eq {p : (Int × Int) × (Int × Int)} {n : Int} (h : p.1.1 < p.2.1) : timLo p n = p.1.2 + (p.2.2 - p.1.2) * (n - p.1.1) / (p.2.1 - p.1.1) := by
  unfold timLo timN
  rw [Int.add_comm, Int.mul_comm p.1.2, Int.add_mul_ediv_left _ _ (show p.2.1 - p.1.1 ≠ 0 by omega)]
  omega
theorem timLo_first {p : (Int × Int) × (Int × Int)} (h : p.1.1 < p.2.1) : timLo p p.1.1 = p.1.2 := by
  rw [timLo_eq h, Int.sub_self, Int.mul_zero, Int.zero_ediv]; omega
theorem timLo_last {p : (Int × Int) × (Int × Int)} (h : p.1.1 < p.2.1) : timLo p p.2.1 = p.2.2 := by
  rw [timLo_eq h, Int.mul_ediv_cancel _ (show p.2.1 - p.1.1 ≠ 0 by omega)]; omega
theorem MapOk.posInj {l : List (Int × Int)} (h : MapOk l) {i j : Nat} (hij : i < j) (hj : j < l.length) : (l.getD i (0, 0)).1 < (l.getD j (0, 0)).1 := by
  have := h.posLt (k := j - i - 1) (i := i) (by omega)
  rwa [show i + (j - i - 1) + 1 = j by omega] at this
theorem timN_bound {p : (Int × Int) × (Int × Int)} {n : Int} (p1 : 0 ≤ p.1.1 ∧ p.1.1 ≤ 1000000) (p2 : 0 ≤ p.2.1 ∧ p.2.1 ≤ 1000000) (p3 : 0 ≤ p.1.2 ∧ p.1.2 ≤ 1000000000000) (p4 : 0 ≤ p.2.2 ∧ p.2.2 ≤ 1000000000000)
    (p5 : p.1.1 < p.2.1) (p6 : p.1.2 < p.2.2) (h1 : p.1.1 ≤ n) (h2 : n ≤ p.2.1) :
    (0 ≤ p.1.2 * (p.2.1 - p.1.1) ∧ p.1.2 * (p.2.1 - p.1.1) ≤ 1000000000000000000) ∧ (0 ≤ (p.2.2 - p.1.2) * (n - p.1.1) ∧ (p.2.2 - p.1.2) * (n - p.1.1) ≤ 1000000000000000000) := by
  have a1 := Int.mul_nonneg p3.1 (show 0 ≤ p.2.1 - p.1.1 by omega)
  have a2 := Int.mul_nonneg (show 0 ≤ p.2.2 - p.1.2 by omega) (show 0 ≤ n - p.1.1 by omega)
  have a3 := Int.mul_le_mul_of_nonneg_right p3.2 (show 0 ≤ p.2.1 - p.1.1 by omega)
  have a4 := Int.mul_le_mul_of_nonneg_right (show p.2.2 - p.1.2 ≤ 1000000000000 by omega) (show 0 ≤ n - p.1.1 by omega)
  omega
end Go.Lq

namespace Go.Lq
open Go

section
variable {H : AHeap}

end
theorem firstD {P : Program} {G : AHeap} {f : FuncId} {args : List Value} {v : Value} (h : ACall P f args G fun v1 H1 => v1 = v ∧ H1 = G) : ACall P f args G fun v1 H1 => v1 = v ∧ H1 = G ++ [] :=
  h.mono fun _ _ ⟨a, b⟩ => ⟨a, by simp [b]⟩

end Go.Lq

namespace Go.Lq
open Go
open Go.Proofs
variable {H : AHeap}

theorem store_at2v {id e : Nat} {x y a b : Value} (h : H[id]? = some (.cells true e [x, y])) (ha : isAtom a = true) (hb : isAtom b = true) : storeR 2 (.pointer (some ⟨id, 0, none⟩)) (.agg ⟨[a, b]⟩) H = some (undef, H.set id (.cells true e [a, b])) := by
  have e1 : (Value.agg ⟨[a, b]⟩).cells = ⟨[a, b]⟩ := rfl
  have e2 : ([a, b] : List Value).all isAtom = true := by simp [ha, hb]
  have e3 : setCells [x, y] 0 [a, b] = [a, b] := rfl
  simp only [storeR, e1, List.size_toArray, storeAt, h, e2, e3, and_true, List.length_cons, List.length_nil]
  rfl
end Go.Lq

namespace Go.Lq

theorem mul_abs {x y : Int} {a b : Nat} (hx : -(a : Int) ≤ x ∧ x ≤ a) (hy : -(b : Int) ≤ y ∧ y ≤ b) : -((a * b : Nat) : Int) ≤ x * y ∧ x * y ≤ ((a * b : Nat) : Int) := by
  have h := Nat.mul_le_mul (show x.natAbs ≤ a by omega) (show y.natAbs ≤ b by omega)
  rw [← Int.natAbs_mul] at h
  omega
theorem ediv_bound {n b : Int} {m : Nat} (hb : 0 < b) (h : -(m : Int) ≤ n ∧ n ≤ m) : -(m : Int) ≤ n / b ∧ n / b ≤ m := by
  constructor
  · refine Int.le_ediv_of_mul_le hb ?_
    have : (-(m : Int)) * b ≤ -(m : Int) * 1 := Int.mul_le_mul_of_nonpos_left (by omega) (by omega)
    omega
  · by_cases hn : 0 ≤ n
    · exact Int.le_trans (Int.ediv_le_self _ hn) h.2
    · have := Int.ediv_neg_of_neg_of_pos (show n < 0 by omega) hb
      omega

end Go.Lq

namespace Go.Lq

def holdsB (s d amp b : Int) : Prop := amp - (-(s * b)) / d ≤ b
instance (s d amp b : Int) : Decidable (holdsB s d amp b) := inferInstanceAs (Decidable (_ ≤ _))
def gcdI (a b : Int) : Int := (Int.gcd a b : Int)
def lowF (n d : Int) : Int × Int := (n / gcdI n d, d / gcdI n d)
theorem gcdI_pos {n d : Int} (hd : 0 < d) : 0 < gcdI n d := by
  unfold gcdI
  have := Int.gcd_pos_of_ne_zero_right n (show d ≠ 0 by omega)
  omega
theorem lowF_mul {n d : Int} : gcdI n d * (lowF n d).1 = n ∧ gcdI n d * (lowF n d).2 = d :=
  ⟨Int.mul_ediv_cancel' (Int.gcd_dvd_left ..), Int.mul_ediv_cancel' (Int.gcd_dvd_right ..)⟩
theorem lowF_pos {n d : Int} (hd : 0 < d) : 0 < (lowF n d).2 := by
  have h1 := gcdI_pos (n := n) hd
  have h2 := (lowF_mul (n := n) (d := d)).2
  rcases Int.lt_trichotomy (lowF n d).2 0 with h | h | h
  · have := Int.mul_neg_of_pos_of_neg h1 h; omega
  · rw [h, Int.mul_zero] at h2; omega
  · exact h
end Go.Lq

namespace Go.Lq
open Go
open Go.Proofs

theorem Ints.atom {H : AHeap} {l : List Int} {v : Value} (h : Ints H l v) : isAtom v = true := by
  rcases h.2 with ⟨rfl, _⟩ | ⟨id, off, c, rfl, _⟩ <;> rfl
theorem n2_at {G : AHeap} {id : Nat} {a b : Value} (h : G[id]? = some (.cells true 0 [a, b])) : loadNR 2 (.pointer (some ⟨id, 0, none⟩)) G = some (.agg ⟨[a, b]⟩, G) := loadN_at h (by simp)
theorem fill2v {x y a : Value} {b : Int} (ha : isAtom a = true) : fillA [x, y] [(0, 1, a), (1, 1, .int .i64 b)] = some [a, .int .i64 b] := by
  have e : a.cells = ⟨[a]⟩ := by cases a <;> first | rfl | cases ha
  have h1 : fillA [x, y] [(0, 1, a), (1, 1, .int .i64 b)] = fillA [a, y] [(1, 1, .int .i64 b)] := by
    conv => lhs; unfold fillA
    rw [e, if_pos ⟨rfl, by simp, by simp [ha]⟩]
    rfl
  rw [h1, fillA_int (by simp)]
  rfl

section
variable {H : AHeap}
end
end Go.Lq


namespace Go.Lq

def cv (f g : Nat → Int) : Nat → Int
  | 0 => f 0 * g 0
  | n + 1 => f 0 * g (n + 1) + cv (fun k => f (k + 1)) g n

end Go.Lq



namespace Go.Lq
open Go
open Go.Proofs

def nilR (v : Value) (H : AHeap) : Option (Value × AHeap) := match v with | .pointer (some a) => some (.pointer (some a), H) | .func (.func f) xs ys => some (.func (.func f) xs ys, H) | _ => none
theorem r_nilCheck {ρ : Operand → Value} {H : AHeap} {x : Operand} : ropRun (.nilCheck x) ρ H = nilR (ρ x) H := rfl
theorem nil_ptr {a : Addr} {H : AHeap} : nilR (.pointer (some a)) H = some (.pointer (some a), H) := rfl
attribute [go_sem] r_nilCheck nil_ptr

section
variable {H : AHeap}
end
end Go.Lq





namespace Go.Lq
open Go
open Go.Proofs

attribute [go_sem] Bool.false_bne Bool.true_bne
theorem gcdI_step {a b : Int} : gcdI b (a.tmod b) = gcdI a b := by
  unfold gcdI Int.gcd
  rw [Int.natAbs_tmod, Nat.gcd_comm b.natAbs, ← Nat.gcd_rec, Nat.gcd_comm]
theorem gcdI_zero (a : Int) : gcdI a 0 = max a (-a) := by
  unfold gcdI
  rw [Int.gcd_zero_right]
  omega
theorem tmod_small {a b : Int} (hb : b ≠ 0) : (a.tmod b).natAbs < b.natAbs := by
  rw [Int.natAbs_tmod]
  exact Nat.mod_lt _ (by omega)
theorem low_tdiv {n d : Int} : n.tdiv (gcdI n d) = (lowF n d).1 ∧ d.tdiv (gcdI n d) = (lowF n d).2 :=
  ⟨Int.tdiv_eq_ediv_of_dvd (Int.gcd_dvd_left ..), Int.tdiv_eq_ediv_of_dvd (Int.gcd_dvd_right ..)⟩
theorem lowF_bound {n d : Int} {m : Nat} (hd : 0 < d) (h : -(m : Int) ≤ n ∧ n ≤ m) : -(m : Int) ≤ (lowF n d).1 ∧ (lowF n d).1 ≤ m := ediv_bound (gcdI_pos hd) h
theorem lowF_den_le {n d : Int} (hd : 0 < d) : (lowF n d).2 ≤ d := Int.ediv_le_self _ (by omega)
abbrev fracV (p : Int × Int) : Value := .agg ⟨[.int .i64 p.1, .int .i64 p.2]⟩
theorem closed_frac (p : Int × Int) : Closed (fracV p) := .agg _ (closed_list (l := [.int .i64 p.1, .int .i64 p.2]) fun v hv => by
  simp only [List.mem_cons, List.not_mem_nil, or_false] at hv
  rcases hv with rfl | rfl <;> exact .int _ _)
theorem closed_frac1 (p : Int × Int) (e : Int) : Closed (.tuple #[fracV p, .int .i64 e]) := .tuple _ (closed_list (l := [fracV p, .int .i64 e]) fun v hv => by
  simp only [List.mem_cons, List.not_mem_nil, or_false] at hv
  rcases hv with rfl | rfl
  · exact closed_frac p
  · exact .int _ _)
theorem fill2i {x y : Value} {a b : Int} : fillA [x, y] [(0, 1, .int .i64 a), (1, 1, .int .i64 b)] = some [.int .i64 a, .int .i64 b] := fill2v rfl

section
variable {H : AHeap}
end
end Go.Lq


namespace Go.Lq
open Go
def kernelCells : List Value := []
def H0 : AHeap := [.cells false 1 [], .cells false 1 []]
theorem own0 : OwnHeap H0 := by
  intro i x hx
  match i with
  | 0 => simp only [H0, List.getElem?_cons_zero, Option.some.injEq] at hx; subst hx; intro v hv; cases hv
  | 1 => simp only [H0, List.getElem?_cons_succ, List.getElem?_cons_zero, Option.some.injEq] at hx; subst hx; intro v hv; cases hv
  | i + 2 => simp [H0] at hx
end Go.Lq

namespace Go.Lq
open Go
open Go.Proofs

theorem isAtom_nilFunc : isAtom .nilFunc = true := rfl
theorem constOk_nilFunc : constOk .nilFunc = true := rfl
attribute [go_sem] r_idxA isAtom_nilFunc constOk_nilFunc
section
variable {G : AHeap} {id : Nat} {deg : Int} {e : Nat}
end

section
variable {H : AHeap}
end
end Go.Lq


namespace Go.Lq
open Go
open Go.Proofs

theorem store_b1 {H : AHeap} {id e : Nat} {x y : Value} (h : H[id]? = some (.cells true e [x])) (ha : isAtom y = true) (hc : y.cells = ⟨[y]⟩) : storeR 1 (.pointer (some ⟨id, 0, none⟩)) y H = some (undef, H.set id (.cells true e [y])) := by
  have e2 : ([y] : List Value).all isAtom = true := by simp [ha]
  have e3 : setCells [x] 0 [y] = [y] := rfl
  simp only [storeR, hc, List.size_toArray, storeAt, h, e2, e3, and_true, List.length_cons, List.length_nil]
  rfl
theorem store_b2 {H : AHeap} {id e : Nat} {x y : Value} {a b : Int} (h : H[id]? = some (.cells true e [x, y])) : storeR 2 (.pointer (some ⟨id, 0, none⟩)) (.agg ⟨[.int .i64 a, .int .i64 b]⟩) H = some (undef, H.set id (.cells true e [.int .i64 a, .int .i64 b])) := store_at2v h rfl rfl
/-! ### A slice in a box, grown in a range over a function -/
theorem OwnI.aside {H0 H : AHeap} {l : List Int} {v : Value} (h : OwnI H0 H l v) {j : Nat} (hj : j < H0.length) : l.length = 0 ∨ idOf v ≠ j := by
  rcases h.2 with ⟨rfl, h0⟩ | ⟨id, rfl, h1, _, _⟩
  · exact .inl h0
  · exact .inr (by show id ≠ j; omega)
theorem OwnI.pushedL {H0 H : AHeap} {l : List Int} {v : Value} (h : OwnI H0 H l v) (hx : H0.length ≤ H.length) (x : Int) : OwnI H0 (pushH H v l x) (l ++ [x]) (pushV H l.length) := by
  have := Own.appended (h.app [.cells true 1 [.int .i64 x]]) (m := 1) (cs := [.int .i64 x]) rfl (by omega) (by simp; omega)
  unfold OwnI
  simpa [pushV, pushH] using this
theorem Keeps.push {k : Nat} {G G' H : AHeap} {l : List Int} {v : Value} (h : Keeps k G H) (ho : OwnI G' H l v) (hg : G.length ≤ G'.length) (x : Int) : Keeps k G (pushH H v l x) := by
  refine ⟨by rw [pushH_len]; have := h.1; omega, fun i hi hk => ?_⟩
  have hl : i < H.length := by have := h.1; omega
  unfold pushH
  rw [appH_at (by simp; omega) (ho.nil_or (ho.aside (by omega))), List.getElem?_append_left hl]
  exact h.2 i hi hk
structure BoxI (k : Nat) (G : AHeap) (l : List Int) (v : Value) (H : AHeap) : Prop where
  keeps : Keeps k G H
  box : H[k]? = some (.cells true 0 [v])
  own : OwnI (G ++ [.dead]) H l v
theorem BoxI.set {k : Nat} {G H : AHeap} {l : List Int} {v : Value} (h : BoxI k G l v H) (hk : k < G.length) (c : AObj) : BoxI k G l v (H.set G.length c) :=
  ⟨h.keeps.set (.inr (Nat.le_refl _)) _, by rw [List.getElem?_set_ne (by omega)]; exact h.box, h.own.set_ne (h.own.aside (by simp)) _⟩
theorem BoxI.app {k : Nat} {G H : AHeap} {l : List Int} {v : Value} (h : BoxI k G l v H) (N : AHeap) : BoxI k G l v (H ++ N) :=
  ⟨h.keeps.app N, at_app h.box, h.own.app N⟩
theorem BoxI.push {k : Nat} {G H : AHeap} {l : List Int} {v : Value} (h : BoxI k G l v H) (hk : k < G.length) (hl : G.length < H.length) (x : Int) {Rb : AObj} (hR : H[G.length]? = some Rb) :
    storeR 1 (.pointer (some ⟨k, 0, none⟩)) (pushV H l.length) (pushH H v l x) = some (undef, (pushH H v l x).set k (.cells true 0 [pushV H l.length])) ∧
    BoxI k G (l ++ [x]) (pushV H l.length) ((pushH H v l x).set k (.cells true 0 [pushV H l.length])) ∧ ((pushH H v l x).set k (.cells true 0 [pushV H l.length]))[G.length]? = some Rb := by
  have b1 := pushH_at (l := l) (x := x) h.box (h.own.nil_or (h.own.aside (by simp; omega)))
  have b2 := pushH_at (l := l) (x := x) hR (h.own.nil_or (h.own.aside (by simp)))
  refine ⟨store_b1 b1 rfl rfl, ⟨(h.keeps.push h.own (by simp) x).set (.inl rfl) _, get_set_self b1, ?_⟩, by rw [List.getElem?_set_ne (by omega)]; exact b2⟩
  have ho := h.own.pushedL (by simp; omega) x
  exact ho.set_ne (.inr (by show H.length + 1 ≠ k; omega)) _

/-! ### slices.Backward over numbers -/
theorem store_newF {H : AHeap} {p : Int × Int} {a b : Int} : storeR 2 (.pointer (some ⟨H.length, 0, none⟩)) (fracV p) (H ++ [.cells true 0 [.int .i64 a, .int .i64 b]]) = some (undef, H ++ [.cells true 0 [.int .i64 p.1, .int .i64 p.2]]) := store_new2
theorem fill_none (zs : List Value) : fillA zs [] = some zs := rfl
theorem fin_l2f {c : RCode} {n a b : Nat} {R : Value → AHeap → Prop} {e : Env} {H : AHeap} {id : Nat} {o : Bool} {z : Nat} {x y : Value} (hp : e.getD a undef = .pointer (some ⟨id, 0, none⟩)) (h1 : H[id]? = some (.cells o z [x, y])) (h : R (.tuple #[.agg ⟨[x, y]⟩, e.getD b undef]) H) :
    Fin ⟨c, n, [.loadN 2 a, .tmp b]⟩ R .ret e H := fin_l2 (u := .agg ⟨[x, y]⟩) (by rw [hp]; exact loadN_at h1 (by simp)) h

section
variable {H : AHeap}
end
end Go.Lq

namespace Go.Lq
open Go
open Go.Proofs

theorem most_max3 {a b c : Int} {H : AHeap} : mostR true (.int .i64 a) [.int .i64 b, .int .i64 c] H = some (.int .i64 (max (max a b) c), H) := by
  simp only [mostR, mostA, Option.map_some, if_true]
  congr 3
  split <;> split <;> omega
theorem most_min3 {a b c : Int} {H : AHeap} : mostR false (.int .i64 a) [.int .i64 b, .int .i64 c] H = some (.int .i64 (min (min a b) c), H) := by
  simp only [mostR, mostA, Option.map_some]
  congr 3
  simp only [Bool.false_eq_true, if_false]
  split <;> split <;> omega
attribute [go_sem] most_max3 most_min3
section
variable {H : AHeap}
theorem whole_c (n : Int) : ACall Go.Proofs.Tryz.prog 26 [.int .i64 n] H fun v H' => v = fracV (n, 1) ∧ H' = H := by
  refine ACall.drop (closed_frac _) ?_
  (refine a26 ?_; simp only [n26, List.replicate, yq, yr, yt, yu]; first | refine q1 ?_ | refine q2 ?_ | refine q6 ?_ | refine q7 ?_ | refine qh rfl ?_ | skip)
  (repeat (first | refine yw ?_ | ((first | apply yd | apply ye); simp (disch := first|exact zz|fail) only [go_sem, fill2i]; with_reducible rfl)))
  refine fin_l1 (u := fracV (n, 1)) ?_ ?_
  · exact loadN_at at_new (by simp)
  · exact ⟨rfl, (Ext.refl _).app _⟩
end
end Go.Lq

namespace Go.Lq
open Go
open Go.Proofs

def eqvR (kind : Nat) (neg : Bool) (x y : Value) (H : AHeap) : Option (Value × AHeap) := (eqvA kind x y).map fun b => (.bool (neg != b), H)
theorem r_eqv {ρ : Operand → Value} {H : AHeap} {k : Nat} {neg : Bool} {x y : Operand} : ropRun (.eqv k neg x y) ρ H = eqvR k neg (ρ x) (ρ y) H := rfl
theorem eqv_slN {neg : Bool} {a : Addr} {n c : Nat} {H : AHeap} : eqvR 2 neg (.slice (some a) n c) (.slice none 0 0) H = some (.bool (neg != false), H) := rfl
theorem eqv_slNN {neg : Bool} {H : AHeap} : eqvR 2 neg (.slice none 0 0) (.slice none 0 0) H = some (.bool (neg != true), H) := rfl
attribute [go_sem] r_eqv eqv_slN eqv_slNN
section
variable {H : AHeap}
end
end Go.Lq

namespace Go.Lq
open Go
open Go.Proofs

section
variable {G : AHeap} {l : List Int} {n : Nat} {d : Int}
end

theorem store_c0 {H : AHeap} {id e : Nat} {x y z : Value} (h : H[id]? = some (.cells true e [x, z])) (ha : isAtom y = true) (hc : y.cells = ⟨[y]⟩) : storeR 1 (.pointer (some ⟨id, 0, none⟩)) y H = some (undef, H.set id (.cells true e [y, z])) := by
  have e2 : ([y] : List Value).all isAtom = true := by simp [ha]
  have e3 : setCells [x, z] 0 [y] = [y, z] := rfl
  simp only [storeR, hc, List.size_toArray, storeAt, h, e2, e3, and_true, List.length_cons, List.length_nil]
  rfl
structure BoxD (k : Nat) (G : AHeap) (l : List Int) (v : Value) (d : Int) (H : AHeap) : Prop where
  keeps : Keeps k G H
  box : H[k]? = some (.cells true 0 [v, .int .i64 d])
  own : OwnI G H l v
theorem BoxD.push {k : Nat} {G H : AHeap} {l : List Int} {v : Value} {d : Int} (h : BoxD k G l v d H) (hk : k < G.length) (x : Int) :
    storeR 1 (.pointer (some ⟨k, 0, none⟩)) (pushV H l.length) (pushH H v l x) = some (undef, (pushH H v l x).set k (.cells true 0 [pushV H l.length, .int .i64 d])) ∧
    BoxD k G (l ++ [x]) (pushV H l.length) d ((pushH H v l x).set k (.cells true 0 [pushV H l.length, .int .i64 d])) := by
  have b1 := pushH_at (l := l) (x := x) h.box (h.own.nil_or (h.own.aside hk))
  have hl := h.keeps.1
  refine ⟨store_c0 b1 rfl rfl, ⟨(h.keeps.push h.own (Nat.le_refl _) x).set (.inl rfl) _, get_set_self b1, ?_⟩⟩
  exact (h.own.pushedL hl x).set_ne (.inr (by show H.length + 1 ≠ k; omega)) _
section
variable {H : AHeap}
end
end Go.Lq

namespace Go.Lq
open Go
open Go.Proofs

section
variable {H : AHeap}
theorem swithin_c (n lo hi : Int) : ACall Go.Proofs.Tryz.prog 43 [.int .i64 n, .int .i64 lo, .int .i64 hi] H fun v H' => v = .bool (decide (lo ≤ n ∧ n ≤ hi)) ∧ H' = H := by
  (refine a43 ?_; simp only [n43, List.replicate, yq, yr, yt, yu]; first | refine q1 ?_ | refine q2 ?_ | refine q6 ?_ | refine q7 ?_ | refine qh rfl ?_ | skip)
  refine yx ?_; (refine aops_until (by simp (disch := first|exact zz|fail) only [go_sem]; with_reducible rfl) ?_); refine yx ?_
  by_cases h : lo ≤ n
  · (refine aops_until (by simp (disch := first|exact zz|fail) only [go_sem, h]; with_reducible rfl) ?_)
    refine yx ?_
    refine fin_1 ⟨?_, rfl⟩
    simp [h]
  · (refine aops_until (by simp (disch := first|exact zz|fail) only [go_sem, h]; with_reducible rfl) ?_)
    refine yx ?_
    refine fin_1 ⟨?_, rfl⟩
    simp [h]
theorem sunless_c (b : Bool) (e : Int) : ACall Go.Proofs.Tryz.prog 50 [.bool b, .int .i64 e] H fun v H' => v = .int .i64 (if b then 0 else e) ∧ H' = H := by
  (refine a50 ?_; simp only [n50, List.replicate, yq, yr, yt, yu]; first | refine q1 ?_ | refine q2 ?_ | refine q6 ?_ | refine q7 ?_ | refine qh rfl ?_ | skip)
  refine yx ?_; (refine aops_until (by simp (disch := first|exact zz|fail) only [go_sem]; with_reducible rfl) ?_); refine yx ?_; (refine aops_until (by simp (disch := first|exact zz|fail) only [go_sem]; with_reducible rfl) ?_); refine yx ?_
  cases b with
  | true =>
    refine cond_t rfl ?_
    refine yx ?_; (refine aops_until (by simp (disch := first|exact zz|fail) only [go_sem]; with_reducible rfl) ?_); refine yx ?_
    exact fin_1 ⟨rfl, rfl⟩
  | false =>
    refine cond_f rfl ?_
    refine yx ?_; (refine aops_until (by simp (disch := first|exact zz|fail) only [go_sem]; with_reducible rfl) ?_); refine yx ?_
    exact fin_1 ⟨rfl, rfl⟩
theorem sfirst_c {l : List Int} {v : Value} (hl : Ints H l v) (hb : l.length ≤ 1000000) : ACall Go.Proofs.Tryz.prog 49 [v] H fun v H' => v = .int .i64 (firstErr l) ∧ H' = H := by
  (refine a49 ?_; simp only [n49, List.replicate, yq, yr, yt, yu]; first | refine q1 ?_ | refine q2 ?_ | refine q6 ?_ | refine q7 ?_ | refine qh rfl ?_ | skip)
  refine yx ?_; (refine aops_until (by simp (disch := first|exact zz|fail) only [go_sem]; with_reducible rfl) ?_); refine yx ?_; (refine aops_until (by simp (disch := first|exact zz|fail) only [go_sem, hl.len, hl.idx, hl.load]; with_reducible rfl) ?_); refine yx ?_
  refine awp_loop_n [true, false, true, false, false, true, true, true, false, false, false, false, false, false, false] l.length (fun i e H' => H' = H ∧ e = [v, junk, .int .i64 0, junk, junk, v, .int .i64 l.length, .int .i64 i, junk, junk, junk, junk, junk, junk, junk] ∧ ∀ j < i, l.getD j 0 = 0) ?_ ?_
  · exact ⟨rfl, rfl, by omega⟩
  · rintro i e H' hi ⟨rfl, rfl, hp⟩
    refine yx ?_; (refine aops_until (by simp (disch := first|exact zz|fail) only [go_sem, hl.len, hl.idx, hl.load]; with_reducible rfl) ?_); refine yx ?_
    refine cond_p rfl (fun hlt => ?_) (fun hge => ?_)
    · refine yx ?_; (refine aops_until (by simp (disch := first|exact zz|fail) only [go_sem, hl.len, hl.idx, hl.load]; with_reducible rfl) ?_); refine yx ?_; (refine aops_until (by simp (disch := first|exact zz|fail) only [go_sem]; with_reducible rfl) ?_); refine yx ?_
      refine cond_p rfl (fun hne => ?_) (fun heq => ?_)
      · refine yx ?_; (refine aops_until (by simp (disch := first|exact zz|fail) only [go_sem]; with_reducible rfl) ?_); refine yx ?_
        refine fin_1 ⟨?_, rfl⟩
        unfold firstErr
        rw [find_at (d := 0) (i := i) (by omega) (fun j hj => by simpa using hp j hj) (by simpa using hne)]
        rfl
      · refine yx ?_; (refine aops_until (by simp (disch := first|exact zz|fail) only [go_sem]; with_reducible rfl) ?_); refine yx ?_
        refine ⟨by omega, rfl, ?_, fun j hj => ?_⟩
        · simp [forget]
        · by_cases h : j = i
          · subst h; simpa using heq
          · exact hp j (by omega)
    · refine yx ?_; (refine aops_until (by simp (disch := first|exact zz|fail) only [go_sem]; with_reducible rfl) ?_); refine yx ?_
      refine fin_1 ⟨?_, rfl⟩
      unfold firstErr
      rw [find_none (d := 0) (fun j hj => by simpa using hp j (by omega))]
      rfl
theorem isPosition_c (n : Int) : ACall Go.Proofs.Tryz.prog 51 [.int .i64 n] H fun v H' => v = .bool (decide (0 ≤ n ∧ n ≤ 1000000)) ∧ H' = H := by
  (refine a51 ?_; simp only [n51, List.replicate, yq, yr, yt, yu]; first | refine q1 ?_ | refine q2 ?_ | refine q6 ?_ | refine q7 ?_ | refine qh rfl ?_ | skip)
  (refine yg ?_)
  refine aops_call_to (swithin_c _ _ _) ?_
  (refine yg ?_)
  exact fin_1 ⟨rfl, rfl⟩
theorem isTime_c (n : Int) : ACall Go.Proofs.Tryz.prog 72 [.int .i64 n] H fun v H' => v = .bool (decide (0 ≤ n ∧ n ≤ 1000000000000)) ∧ H' = H := by
  (refine a72 ?_; simp only [n72, List.replicate, yq, yr, yt, yu]; first | refine q1 ?_ | refine q2 ?_ | refine q6 ?_ | refine q7 ?_ | refine qh rfl ?_ | skip)
  (refine yg ?_)
  refine aops_call_to (swithin_c _ _ _) ?_
  (refine yg ?_)
  exact fin_1 ⟨rfl, rfl⟩
theorem rIsPosition_c (n : Int) : ACall Go.Proofs.Tryz.prog 39 [.int .i64 n] H fun v H' => v = .bool (decide (0 ≤ n ∧ n ≤ 1000000)) ∧ H' = H := by
  (refine a39 ?_; simp only [n39, List.replicate, yq, yr, yt, yu]; first | refine q1 ?_ | refine q2 ?_ | refine q6 ?_ | refine q7 ?_ | refine qh rfl ?_ | skip)
  (refine yg ?_)
  refine aops_call_to (bwithin_c _ _ _) ?_
  (refine yg ?_)
  exact fin_1 ⟨rfl, rfl⟩
theorem rIsTick_c (n : Int) : ACall Go.Proofs.Tryz.prog 40 [.int .i64 n] H fun v H' => v = .bool (decide (0 ≤ n ∧ n ≤ 1000000000000)) ∧ H' = H := by
  (refine a40 ?_; simp only [n40, List.replicate, yq, yr, yt, yu]; first | refine q1 ?_ | refine q2 ?_ | refine q6 ?_ | refine q7 ?_ | refine qh rfl ?_ | skip)
  (refine yg ?_)
  refine aops_call_to (bwithin_c _ _ _) ?_
  (refine yg ?_)
  exact fin_1 ⟨rfl, rfl⟩
theorem Pairs.atom {l : List (Int × Int)} {v : Value} (h : Pairs H l v) : isAtom v = true := by
  rcases h.2 with ⟨rfl, _⟩ | ⟨id, off, c, rfl, _⟩ <;> rfl
theorem Pairs.box1 {l : List (Int × Int)} {v : Value} (h : Pairs H l v) {H' : AHeap} : boxR (.agg ⟨[v]⟩) H' = some (.pointer (some ⟨H'.length, 0, none⟩), H' ++ [.cells true 0 [v]]) :=
  box_agg (by simp [h.atom])
theorem n1_at {G : AHeap} {id : Nat} {a : Value} (h : G[id]? = some (.cells true 0 [a])) : loadNR 1 (.pointer (some ⟨id, 0, none⟩)) G = some (.agg ⟨[a]⟩, G) := loadN_at h (by simp)
theorem node_E {p n : Int × Int} : firstErr [(if decide ((0 ≤ n.1 ∧ n.1 ≤ 1000000) ∧ (0 ≤ n.2 ∧ n.2 ≤ 1000000000000)) = true then 0 else 2), (if decide (p.1 < n.1 ∧ p.2 < n.2) = true then 0 else 9)] = nodeE p n := by
  unfold nodeE
  simp only [decide_eq_true_eq]

set_option maxHeartbeats 4000000 in
theorem spCheckMap_c {l : List (Int × Int)} {v : Value} (hl : Pairs H l v) (hb : l.length ≤ 1000000000) : ACall Go.Proofs.Tryz.prog 67 [.agg ⟨[v]⟩] H fun w H' => w = .tuple #[.int .i64 (ckMap l).1, .int .i64 (ckMap l).2] ∧ H' = H := by
  refine ACall.drop (closed_two _ _) ?_
  (refine a67 ?_; simp only [n67, List.replicate, yq, yr, yt, yu]; first | refine q1 ?_ | refine q2 ?_ | refine q6 ?_ | refine q7 ?_ | refine qh rfl ?_ | skip)
  have g0 : (H ++ [AObj.cells true 0 [v]])[H.length]? = some (.cells true 0 [v]) := at_new
  have xG : Ext H (H ++ [AObj.cells true 0 [v]]) := (Ext.refl H).app _
  (repeat (first | refine yw ?_ | ((first | apply yd | apply ye); simp (disch := first|exact zz|fail) only [go_sem, hl.box1]; with_reducible rfl)))
  generalize (H ++ [AObj.cells true 0 [v]] : AHeap) = G at g0 xG
  have hl1 := hl.ext xG
  (repeat (first | refine yw ?_ | ((first | apply yd | apply ye); simp (disch := first|exact zz|fail) only [go_sem, hl1.len, hl1.idx, hl1.load, load_at g0]; with_reducible rfl)))
  refine adraw_call (N := []) (firstD (sunless_c _ _)) ?_
  rw [List.append_nil]
  (repeat (first | refine yw ?_ | ((first | apply yd | apply ye); simp (disch := first|exact zz|fail) only [go_sem, hl1.len, hl1.idx, hl1.load, load_at g0]; with_reducible rfl)))
  refine adraw_call (N := []) (firstD (sunless_c _ _)) ?_
  rw [List.append_nil]
  (refine yg ?_)
  refine adraw_call (N := []) (firstD (sfirst_c (l := [_, _]) (Ints.last (l := [_, _]) 2) (by simp))) ?_
  rw [List.append_nil]
  by_cases h2 : l.length < 2
  · have ec : ckMap l = (0, 10) := by unfold ckMap; rw [if_pos h2]
    rw [ec]
    (repeat (first | refine yw ?_ | ((first | apply yd | apply ye); simp (disch := first|exact zz|fail) only [go_sem, dec_f (show ¬ (2 : Int) ≤ (l.length : Int) by omega), ite_ft, firstErr_e (show (10 : Int) ≠ 0 by decide)]; with_reducible rfl)))
    refine cond_t rfl ?_
    (refine yg ?_)
    exact fin_2 ⟨rfl, xG.app _⟩
  by_cases h20 : 20 < l.length
  · have ec : ckMap l = (0, 8) := by unfold ckMap; rw [if_neg h2, if_pos h20]
    rw [ec]
    (repeat (first | refine yw ?_ | ((first | apply yd | apply ye); simp (disch := first|exact zz|fail) only [go_sem, dec_t (show (2 : Int) ≤ (l.length : Int) by omega), dec_f (show ¬ (l.length : Int) ≤ 20 by omega), ite_tt, ite_ft, firstErr_z, firstErr_e (show (8 : Int) ≠ 0 by decide)]; with_reducible rfl)))
    refine cond_t rfl ?_
    (refine yg ?_)
    exact fin_2 ⟨rfl, xG.app _⟩
  have ec : ckMap l = ckGo (-1, -1) 0 l := by unfold ckMap; rw [if_neg h2, if_neg h20]
  (repeat (first | refine yw ?_ | ((first | apply yd | apply ye); simp (disch := first|exact zz|fail) only [go_sem, dec_t (show (2 : Int) ≤ (l.length : Int) by omega), dec_t (show (l.length : Int) ≤ 20 by omega), ite_tt, firstErr_z, firstErr_nil]; with_reducible rfl)))
  refine cond_f rfl ?_
  have x2 : Ext G (G ++ [AObj.cells true 1 [.int .i64 0, .int .i64 0]]) := (Ext.refl G).app _
  generalize (G ++ [AObj.cells true 1 [.int .i64 0, .int .i64 0]] : AHeap) = G2 at x2
  have xH2 := xG.trans x2
  have hl2 := hl.ext xH2
  have k0 := at_app (N := [AObj.cells true 0 [.int .i64 (-1), .int .i64 (-1)]]) (x2.cell g0)
  have k5 : (G2 ++ [AObj.cells true 0 [.int .i64 (-1), .int .i64 (-1)]])[G2.length]? = some (.cells true 0 [.int .i64 (-1), .int .i64 (-1)]) := at_new
  have x3 : Ext G2 (G2 ++ [AObj.cells true 0 [.int .i64 (-1), .int .i64 (-1)]]) := (Ext.refl G2).app _
  have hl3 := hl2.ext x3
  (repeat (first | refine yw ?_ | ((first | apply yd | apply ye); simp (disch := first|exact zz|fail) only [go_sem, hl3.len, hl3.idx, hl3.load, fill2i, store_new2, load_at k0]; with_reducible rfl)))
  have l3 : (G2 ++ [AObj.cells true 0 [.int .i64 (-1), .int .i64 (-1)]]).length = G2.length + 1 := by simp
  generalize (G2 ++ [AObj.cells true 0 [.int .i64 (-1), .int .i64 (-1)]] : AHeap) = G3 at k0 k5 x3 hl3 l3
  refine awp_loop_n [false, true, false, false, false, true, false, false, false, false, false, false, false, false, false, false, false, false, false, false, false, false, false, false, false, false, true, true, true, false, false, false, false, false, false, false, false, false, false, false, false, false, false, false, false, false, false, false, false, false, false, false, false, false, false, false, false, false, false, false, false, false, false] l.length (fun i e H' => e = [junk, .pointer (some ⟨H.length, 0, none⟩), junk, junk, junk, .pointer (some ⟨G2.length, 0, none⟩), junk, junk, junk, junk, junk, junk, junk, junk, junk, junk, junk, junk, junk, junk, junk, junk, junk, junk, junk, junk, v, .int .i64 (l.length : Nat), .int .i64 i, junk, junk, junk, junk, junk, junk, junk, junk, junk, junk, junk, junk, junk, junk, junk, junk, junk, junk, junk, junk, junk, junk, junk, junk, junk, junk, junk, junk, junk, junk, junk, junk, junk, junk] ∧ Keeps G2.length G3 H' ∧ H'[G2.length]? = some (.cells true 0 [.int .i64 (prevAt l i).1, .int .i64 (prevAt l i).2]) ∧ ∀ j, j < i → nodeE (prevAt l j) (l.getD j (0, 0)) = 0) ?_ ?_
  · exact ⟨by simp [forget], Keeps.of_ext (Ext.refl _), k5, fun j hj => by omega⟩
  rintro i e H' hi ⟨rfl, hK, b5, hj⟩
  have xK := hK.ext x3 (Nat.le_refl _)
  have xK2 := xH2.trans xK
  have hll := hl.ext xK2
  have ec2 := ckGo_from hj hi
  rw [← ec] at ec2
  (refine yg ?_)
  refine cond_p rfl (fun hlt => ?_) (fun hge => ?_)
  rotate_left 1
  · obtain rfl : i = l.length := by omega
    rw [ckGo_end] at ec2
    (refine yg ?_)
    exact fin_2 ⟨by rw [ec2]; rfl, xK2⟩
  have hi' : i < l.length := by omega
  have e1 : (G2 ++ ([] : AHeap)).length = G2.length := by simp
  (repeat (first | refine yv ?_ | (apply yd; simp (disch := first|exact zz|fail) only [go_sem, hll.len, hll.idx, hll.load, store_new2]; with_reducible rfl)))
  have b7 : (H' ++ [AObj.cells true 0 [.int .i64 (l.getD i (0, 0)).1, .int .i64 (l.getD i (0, 0)).2]])[H'.length]? = some (.cells true 0 [.int .i64 (l.getD i (0, 0)).1, .int .i64 (l.getD i (0, 0)).2]) := at_new
  have b5 := at_app (N := [AObj.cells true 0 [.int .i64 (l.getD i (0, 0)).1, .int .i64 (l.getD i (0, 0)).2]]) b5
  have hK := hK.app [AObj.cells true 0 [.int .i64 (l.getD i (0, 0)).1, .int .i64 (l.getD i (0, 0)).2]]
  have xK2 := xK2.app [AObj.cells true 0 [.int .i64 (l.getD i (0, 0)).1, .int .i64 (l.getD i (0, 0)).2]]
  have l7 := hK.1
  generalize (H' ++ [AObj.cells true 0 [.int .i64 (l.getD i (0, 0)).1, .int .i64 (l.getD i (0, 0)).2]] : AHeap) = H1 at b7 b5 hK xK2 l7
  refine awp_mid [false, true, false, false, false, true, true, true, true, false, false, false, false, false, false, false, false, false, false, false, false, false, false, false, false, false, true, true, true, false, false, false, false, false, false, false, false, false, false, false, false, false, false, false, false, false, false, false, false, false, false, false, false, false, false, false, false, false, false, false, false, false, false] (fun e J => (∃ N, J = H1 ++ N) ∧ e = [junk, .pointer (some ⟨H.length, 0, none⟩), junk, junk, junk, .pointer (some ⟨G2.length, 0, none⟩), .int .i64 i, .pointer (some ⟨H'.length, 0, none⟩), .int .i64 (nodeE (prevAt l i) (l.getD i (0, 0))), junk, junk, junk, junk, junk, junk, junk, junk, junk, junk, junk, junk, junk, junk, junk, junk, junk, v, .int .i64 (l.length : Nat), .int .i64 i, junk, junk, junk, junk, junk, junk, junk, junk, junk, junk, junk, junk, junk, junk, junk, junk, junk, junk, junk, junk, junk, junk, junk, junk, junk, junk, junk, junk, junk, junk, junk, junk, junk, junk]) ?_ ?_
  · generalize l.getD i (0, 0) = n at *
    generalize prevAt l i = p at *
    (repeat (first | refine yw ?_ | ((first | apply yd | apply ye); simp (disch := first|exact zz|fail) only [go_sem, load_at b7]; with_reducible rfl)))
    refine adraw_call (N := []) (firstD (isPosition_c _)) ?_
    rw [List.append_nil]
    by_cases hp : 0 ≤ n.1 ∧ n.1 ≤ 1000000
    · (repeat (first | refine yw ?_ | ((first | apply yd | apply ye); simp (disch := first|exact zz|fail) only [go_sem, dec_t hp, load_at b7]; with_reducible rfl)))
      refine adraw_call (N := []) (firstD (isTime_c _)) ?_
      rw [List.append_nil]
      (repeat (first | refine yw ?_ | ((first | apply yd | apply ye); simp (disch := first|exact zz|fail) only [go_sem, dec_t hp]; with_reducible rfl)))
      refine adraw_call (N := []) (firstD (sunless_c _ _)) ?_
      rw [List.append_nil]
      by_cases hq : p.1 < n.1
      · (repeat (first | refine yw ?_ | ((first | apply yd | apply ye); simp (disch := first|exact zz|fail) only [go_sem, load_at b7, load_at b5, dec_t hq]; with_reducible rfl)))
        refine adraw_call (N := []) (firstD (sunless_c _ _)) ?_
        rw [List.append_nil]
        (repeat (first | refine yw ?_ | ((first | apply yd | apply ye); simp (disch := first|exact zz|fail) only [go_sem, dec_t hq]; with_reducible rfl)))
        refine adraw_call (N := []) (firstD (sfirst_c (l := [_, _]) (Ints.last (l := [_, _]) 2) (by simp))) ?_
        rw [List.append_nil]
        (refine yg ?_)
        refine ⟨rfl, ⟨_, rfl⟩, ?_⟩
        first | (simp [forget, ← node_E, hp, hq]; done) | simp [forget, ← node_E, hp, hq, firstErr]
      · (repeat (first | refine yw ?_ | ((first | apply yd | apply ye); simp (disch := first|exact zz|fail) only [go_sem, load_at b7, load_at b5, dec_f hq]; with_reducible rfl)))
        refine adraw_call (N := []) (firstD (sunless_c _ _)) ?_
        rw [List.append_nil]
        (repeat (first | refine yw ?_ | ((first | apply yd | apply ye); simp (disch := first|exact zz|fail) only [go_sem, dec_f hq]; with_reducible rfl)))
        refine adraw_call (N := []) (firstD (sfirst_c (l := [_, _]) (Ints.last (l := [_, _]) 2) (by simp))) ?_
        rw [List.append_nil]
        (refine yg ?_)
        refine ⟨rfl, ⟨_, rfl⟩, ?_⟩
        first | (simp [forget, ← node_E, hp, hq]; done) | simp [forget, ← node_E, hp, hq, firstErr]
    · (repeat (first | refine yw ?_ | ((first | apply yd | apply ye); simp (disch := first|exact zz|fail) only [go_sem, dec_f hp]; with_reducible rfl)))
      refine adraw_call (N := []) (firstD (sunless_c _ _)) ?_
      rw [List.append_nil]
      by_cases hq : p.1 < n.1
      · (repeat (first | refine yw ?_ | ((first | apply yd | apply ye); simp (disch := first|exact zz|fail) only [go_sem, load_at b7, load_at b5, dec_t hq]; with_reducible rfl)))
        refine adraw_call (N := []) (firstD (sunless_c _ _)) ?_
        rw [List.append_nil]
        (repeat (first | refine yw ?_ | ((first | apply yd | apply ye); simp (disch := first|exact zz|fail) only [go_sem, dec_t hq]; with_reducible rfl)))
        refine adraw_call (N := []) (firstD (sfirst_c (l := [_, _]) (Ints.last (l := [_, _]) 2) (by simp))) ?_
        rw [List.append_nil]
        (refine yg ?_)
        refine ⟨rfl, ⟨_, rfl⟩, ?_⟩
        first | (simp [forget, ← node_E, hp, hq]; done) | simp [forget, ← node_E, hp, hq, firstErr]
      · (repeat (first | refine yw ?_ | ((first | apply yd | apply ye); simp (disch := first|exact zz|fail) only [go_sem, load_at b7, load_at b5, dec_f hq]; with_reducible rfl)))
        refine adraw_call (N := []) (firstD (sunless_c _ _)) ?_
        rw [List.append_nil]
        (repeat (first | refine yw ?_ | ((first | apply yd | apply ye); simp (disch := first|exact zz|fail) only [go_sem, dec_f hq]; with_reducible rfl)))
        refine adraw_call (N := []) (firstD (sfirst_c (l := [_, _]) (Ints.last (l := [_, _]) 2) (by simp))) ?_
        rw [List.append_nil]
        (refine yg ?_)
        refine ⟨rfl, ⟨_, rfl⟩, ?_⟩
        first | (simp [forget, ← node_E, hp, hq]; done) | simp [forget, ← node_E, hp, hq, firstErr]
  rintro e J ⟨⟨N, rfl⟩, rfl⟩
  have b7 := at_app (N := N) b7
  have b5 := at_app (N := N) b5
  have hK := hK.app N
  have xK2 := xK2.app N
  by_cases he : nodeE (prevAt l i) (l.getD i (0, 0)) = 0
  · (repeat (first | refine yw ?_ | ((first | apply yd | apply ye); simp (disch := first|exact zz|fail) only [go_sem, dec_f (show ¬ nodeE (prevAt l i) (l.getD i (0, 0)) ≠ 0 by rw [he]; simp)]; with_reducible rfl)))
    refine cond_f rfl ?_
    (repeat (first | refine yw ?_ | ((first | apply yd | apply ye); simp (disch := first|exact zz|fail) only [go_sem, n2_at b7, store_b2 b5]; with_reducible rfl)))
    refine ⟨by omega, by simp [forget], hK.set (.inl rfl) _, ?_, fun j hj2 => ?_⟩
    · rw [prevAt_succ]; exact get_set_self b5
    · by_cases e : j = i
      · subst e; exact he
      · exact hj j (by omega)
  · rw [ckGo_at hi', if_pos he] at ec2
    (repeat (first | refine yw ?_ | ((first | apply yd | apply ye); simp (disch := first|exact zz|fail) only [go_sem, dec_t (show nodeE (prevAt l i) (l.getD i (0, 0)) ≠ 0 from he)]; with_reducible rfl)))
    refine cond_t rfl ?_
    (refine yg ?_)
    exact fin_2 ⟨by rw [ec2]; rfl, xK2⟩
end
end Go.Lq

namespace Go.Lq
open Go
open Go.Proofs

section
variable {H : AHeap}
set_option maxHeartbeats 4000000 in
theorem spMapErr_c {l : List (Int × Int)} {s v : Value} (hv : Sl H 1 1 [s] v) (hl : Pairs H l s) (hb : l.length ≤ 1000000000) : ACall Go.Proofs.Tryz.prog 32 [v] H fun w H' => w = .int .i64 (mapErrL l) ∧ H' = H := by
  refine ACall.drop (.int _ _) ?_
  (refine a32 ?_; simp only [n32, List.replicate, yq, yr, yt, yu]; first | refine q1 ?_ | refine q2 ?_ | refine q6 ?_ | refine q7 ?_ | refine qh rfl ?_ | skip)
  (repeat (first | refine yw ?_ | ((first | apply yd | apply ye); simp (disch := first|exact zz|fail) only [go_sem, hv.len]; with_reducible rfl)))
  refine awp_loop_n [false, false, false, false, false, false, false, true, true, true, false, false, false, false, false, false, false, false, false, false, false, false] 1 (fun i e H' => Ext H H' ∧ (i = 1 → mapErrL l = 0) ∧ e = [junk, junk, junk, junk, junk, junk, junk, v, .int .i64 ((1 : Nat) : Int), .int .i64 i, junk, junk, junk, junk, junk, junk, junk, junk, junk, junk, junk, junk]) ?_ ?_
  · exact ⟨Ext.refl _, fun h => by omega, by simp [forget]⟩
  rintro i e H' hi ⟨x1, hz, rfl⟩
  (refine yg ?_)
  refine cond_p rfl (fun hlt => ?_) (fun hge => ?_)
  rotate_left 1
  · obtain rfl : i = 1 := by omega
    (refine yg ?_)
    exact fin_1 ⟨by rw [hz rfl]; rfl, x1⟩
  obtain rfl : i = 0 := by omega
  have h1 : ∀ J : AHeap, idxR 1 v (.int .i64 ((0 : Nat) : Int)) J = some (addrOf v 0, J) := fun J => by
    have := hv.idx (i := 0) (k := .i64) (H' := J) (by omega) (by omega)
    simpa using this
  have h2 : loadNR 1 (addrOf v 0) H' = some (.agg ⟨[s]⟩, H') := by
    have := Sl.loadN (k := 0) (m := 1) hv x1 (by omega) (by omega)
    simpa using this
  have hst : storeR 1 (.pointer (some ⟨H'.length, 0, none⟩)) (.agg ⟨[s]⟩) (H' ++ [AObj.cells true 0 [.slice none 0 0]]) = some (undef, H' ++ [AObj.cells true 0 [s]]) := store_newN (by simp [hl.atom]) rfl rfl
  have b4 : (H' ++ [AObj.cells true 0 [s]])[H'.length]? = some (.cells true 0 [s]) := at_new
  have x2 := x1.app [AObj.cells true 0 [s]]
  (repeat (first | refine yw ?_ | ((first | apply yd | apply ye); simp (disch := first|exact zz|fail) only [go_sem, h1, h2, hst, n1_at b4]; with_reducible rfl)))
  refine aops_call_to (spCheckMap_c (hl.ext x2) hb) ?_
  (refine yg ?_)
  refine cond_p rfl (fun hne => ?_) (fun heq => ?_)
  · (refine yg ?_)
    exact fin_1 ⟨rfl, x2⟩
  · (refine yg ?_)
    exact ⟨by omega, x2, fun _ => Decidable.not_not.1 heq, by simp [forget]⟩

set_option maxHeartbeats 4000000 in
theorem rCheckMap_c {l : List (Int × Int)} {v : Value} (hl : Pairs H l v) (hb : l.length ≤ 1000000000) : ACall Go.Proofs.Tryz.prog 36 [.agg ⟨[v]⟩] H fun w H' => w = .tuple #[.int .i64 (ckMap l).1, .int .i64 (ckMap l).2] ∧ H' = H := by
  refine ACall.drop (closed_two _ _) ?_
  (refine a36 ?_; simp only [n36, List.replicate, yq, yr, yt, yu]; first | refine q1 ?_ | refine q2 ?_ | refine q6 ?_ | refine q7 ?_ | refine qh rfl ?_ | skip)
  have g0 : (H ++ [AObj.cells true 0 [v]])[H.length]? = some (.cells true 0 [v]) := at_new
  have xG : Ext H (H ++ [AObj.cells true 0 [v]]) := (Ext.refl H).app _
  (repeat (first | refine yw ?_ | ((first | apply yd | apply ye); simp (disch := first|exact zz|fail) only [go_sem, hl.box1]; with_reducible rfl)))
  generalize (H ++ [AObj.cells true 0 [v]] : AHeap) = G at g0 xG
  have hl1 := hl.ext xG
  by_cases h2 : l.length < 2
  · have ec : ckMap l = (0, 10) := by unfold ckMap; rw [if_pos h2]
    rw [ec]
    (repeat (first | refine yw ?_ | ((first | apply yd | apply ye); simp (disch := first|exact zz|fail) only [go_sem, hl1.len, hl1.idx, hl1.load, load_at g0, dec_t (show (l.length : Int) < 2 by omega)]; with_reducible rfl)))
    refine cond_t rfl ?_
    (refine yg ?_)
    exact fin_2 ⟨rfl, xG⟩
  (repeat (first | refine yw ?_ | ((first | apply yd | apply ye); simp (disch := first|exact zz|fail) only [go_sem, hl1.len, hl1.idx, hl1.load, load_at g0, dec_f (show ¬ (l.length : Int) < 2 by omega)]; with_reducible rfl)))
  refine cond_f rfl ?_
  by_cases h20 : 20 < l.length
  · have ec : ckMap l = (0, 8) := by unfold ckMap; rw [if_neg h2, if_pos h20]
    rw [ec]
    (repeat (first | refine yw ?_ | ((first | apply yd | apply ye); simp (disch := first|exact zz|fail) only [go_sem, hl1.len, hl1.idx, hl1.load, load_at g0, dec_t (show (20 : Int) < (l.length : Int) by omega)]; with_reducible rfl)))
    refine cond_t rfl ?_
    (refine yg ?_)
    exact fin_2 ⟨rfl, xG⟩
  have ec : ckMap l = ckGo (-1, -1) 0 l := by unfold ckMap; rw [if_neg h2, if_neg h20]
  (repeat (first | refine yw ?_ | ((first | apply yd | apply ye); simp (disch := first|exact zz|fail) only [go_sem, hl1.len, hl1.idx, hl1.load, load_at g0, dec_f (show ¬ (20 : Int) < (l.length : Int) by omega)]; with_reducible rfl)))
  refine cond_f rfl ?_
  (refine yg ?_)
  refine awp_loop_n [false, true, false, false, true, false, false, false, false, false, false, false, false, false, false, false, false, false, false, false, false, false, false, false, false, false, false, false, false, false, false, false, false, false, false, false, false, false, false, false, false, false, false, false, false, false, false, false, false, false, false, false, false, false, false, false, false, false, false, false, false, false, false, false] l.length (fun i e H' => Ext G H' ∧ e = [junk, .pointer (some ⟨H.length, 0, none⟩), junk, junk, .int .i64 i, junk, junk, junk, junk, junk, junk, junk, junk, junk, junk, junk, junk, junk, junk, junk, junk, junk, junk, junk, junk, junk, junk, junk, junk, junk, junk, junk, junk, junk, junk, junk, junk, junk, junk, junk, junk, junk, junk, junk, junk, junk, junk, junk, junk, junk, junk, junk, junk, junk, junk, junk, junk, junk, junk, junk, junk, junk, junk, junk] ∧ ∀ j, j < i → nodeE (prevAt l j) (l.getD j (0, 0)) = 0) ?_ ?_
  · exact ⟨Ext.refl _, by simp [forget], fun j hj => by omega⟩
  rintro i e H' hi ⟨x1, rfl, hj⟩
  have xK2 := xG.trans x1
  have hll := hl.ext xK2
  have b0 := x1.cell g0
  have ec2 := ckGo_from hj hi
  rw [← ec] at ec2
  (repeat (first | refine yw ?_ | ((first | apply yd | apply ye); simp (disch := first|exact zz|fail) only [go_sem, hll.len, hll.idx, hll.load, load_at b0]; with_reducible rfl)))
  refine cond_p rfl (fun hlt => ?_) (fun hge => ?_)
  rotate_left 1
  · obtain rfl : i = l.length := by omega
    rw [ckGo_end] at ec2
    (refine yg ?_)
    exact fin_2 ⟨by rw [ec2]; rfl, xK2⟩
  have hi' : i < l.length := by omega
  rw [ckGo_at hi'] at ec2
  have b7 : (H' ++ [AObj.cells true 0 [.int .i64 (l.getD i (0, 0)).1, .int .i64 (l.getD i (0, 0)).2]])[H'.length]? = some (.cells true 0 [.int .i64 (l.getD i (0, 0)).1, .int .i64 (l.getD i (0, 0)).2]) := at_new
  have b0' := at_app (N := [AObj.cells true 0 [.int .i64 (l.getD i (0, 0)).1, .int .i64 (l.getD i (0, 0)).2]]) b0
  have x1' := x1.app [AObj.cells true 0 [.int .i64 (l.getD i (0, 0)).1, .int .i64 (l.getD i (0, 0)).2]]
  have xK3 := xG.trans x1'
  have hl3 := hl.ext xK3
  (repeat (first | refine yw ?_ | ((first | apply yd | apply ye); simp (disch := first|exact zz|fail) only [go_sem, hll.len, hll.idx, hll.load, load_at b0, store_new2, load_at b7]; with_reducible rfl)))
  generalize (H' ++ [AObj.cells true 0 [.int .i64 (l.getD i (0, 0)).1, .int .i64 (l.getD i (0, 0)).2]] : AHeap) = H1 at b7 b0' x1' xK3 hl3
  refine aops_call_to (rIsPosition_c _) ?_
  by_cases hp : 0 ≤ (l.getD i (0, 0)).1 ∧ (l.getD i (0, 0)).1 ≤ 1000000
  rotate_left 1
  · rw [nodeE_r (fun h => hp h.1), if_pos (by decide)] at ec2
    (repeat (first | refine yw ?_ | ((first | apply yd | apply ye); simp (disch := first|exact zz|fail) only [go_sem, dec_f hp]; with_reducible rfl)))
    refine cond_t rfl ?_
    (refine yg ?_)
    exact fin_2 ⟨by rw [ec2]; rfl, xK3⟩
  (repeat (first | refine yw ?_ | ((first | apply yd | apply ye); simp (disch := first|exact zz|fail) only [go_sem, dec_t hp, load_at b7]; with_reducible rfl)))
  refine aops_call_to (rIsTick_c _) ?_
  by_cases ht : 0 ≤ (l.getD i (0, 0)).2 ∧ (l.getD i (0, 0)).2 ≤ 1000000000000
  rotate_left 1
  · rw [nodeE_r (fun h => ht h.2), if_pos (by decide)] at ec2
    (repeat (first | refine yw ?_ | ((first | apply yd | apply ye); simp (disch := first|exact zz|fail) only [go_sem, dec_t hp, dec_f ht]; with_reducible rfl)))
    refine cond_t rfl ?_
    (refine yg ?_)
    exact fin_2 ⟨by rw [ec2]; rfl, xK3⟩
  (repeat (first | refine yw ?_ | ((first | apply yd | apply ye); simp (disch := first|exact zz|fail) only [go_sem, dec_t hp, dec_t ht]; with_reducible rfl)))
  refine cond_f rfl ?_
  have next : nodeE (prevAt l i) (l.getD i (0, 0)) = 0 → ∀ j, j < i + 1 → nodeE (prevAt l j) (l.getD j (0, 0)) = 0 := fun he j hj2 => by
    by_cases e : j = i
    · subst e; exact he
    · exact hj j (by omega)
  by_cases h0 : i = 0
  · subst h0
    have hz : nodeE (prevAt l 0) (l.getD 0 (0, 0)) = 0 := nodeE_z ⟨hp, ht⟩ ⟨show (-1 : Int) < _ by omega, show (-1 : Int) < _ by omega⟩
    (repeat (first | refine yw ?_ | ((first | apply yd | apply ye); simp (disch := first|exact zz|fail) only [go_sem, dec_f (show ¬ (0 : Int) < ((0 : Nat) : Int) by decide)]; with_reducible rfl)))
    refine cond_f rfl ?_
    (refine yg ?_)
    exact ⟨by omega, x1', by simp [forget], next hz⟩
  have hpr : prevAt l i = l.getD (i - 1) (0, 0) := by unfold prevAt; rw [if_neg h0]
  rw [hpr] at ec2 next
  have ei : ((i : Int) - 1).toNat = i - 1 := by omega
  by_cases hq : (l.getD i (0, 0)).1 ≤ (l.getD (i - 1) (0, 0)).1
  · rw [nodeE_o ⟨hp, ht⟩ (fun h => by omega), if_pos (by decide)] at ec2
    (repeat (first | refine yw ?_ | ((first | apply yd | apply ye); simp (disch := first|exact zz|fail) only [go_sem, hl3.len, hl3.idx, hl3.load, dec_t (show (0 : Int) < (i : Int) by omega), load_at b7, load_at b0', ei, dec_t hq]; with_reducible rfl)))
    refine cond_t rfl ?_
    (refine yg ?_)
    exact fin_2 ⟨by rw [ec2]; rfl, xK3⟩
  by_cases hr : (l.getD i (0, 0)).2 ≤ (l.getD (i - 1) (0, 0)).2
  · rw [nodeE_o ⟨hp, ht⟩ (fun h => by omega), if_pos (by decide)] at ec2
    (repeat (first | refine yw ?_ | ((first | apply yd | apply ye); simp (disch := first|exact zz|fail) only [go_sem, hl3.len, hl3.idx, hl3.load, dec_t (show (0 : Int) < (i : Int) by omega), load_at b7, load_at b0', ei, dec_f hq, dec_t hr]; with_reducible rfl)))
    refine cond_t rfl ?_
    (refine yg ?_)
    exact fin_2 ⟨by rw [ec2]; rfl, xK3⟩
  (repeat (first | refine yw ?_ | ((first | apply yd | apply ye); simp (disch := first|exact zz|fail) only [go_sem, hl3.len, hl3.idx, hl3.load, dec_t (show (0 : Int) < (i : Int) by omega), load_at b7, load_at b0', ei, dec_f hq, dec_f hr]; with_reducible rfl)))
  refine cond_f rfl ?_
  (refine yg ?_)
  exact ⟨by omega, x1', by simp [forget], next (nodeE_z ⟨hp, ht⟩ ⟨by omega, by omega⟩)⟩
theorem rMapErr_c {l : List (Int × Int)} {v : Value} (hl : Pairs H l v) (hb : l.length ≤ 1000000000) : ACall Go.Proofs.Tryz.prog 13 [.agg ⟨[v]⟩] H fun w H' => w = .int .i64 (mapErrL l) ∧ H' = H := by
  refine ACall.drop (.int _ _) ?_
  (refine a13 ?_; simp only [n13, List.replicate, yq, yr, yt, yu]; first | refine q1 ?_ | refine q2 ?_ | refine q6 ?_ | refine q7 ?_ | refine qh rfl ?_ | skip)
  have g0 : (H ++ [AObj.cells true 0 [v]])[H.length]? = some (.cells true 0 [v]) := at_new
  have xG : Ext H (H ++ [AObj.cells true 0 [v]]) := (Ext.refl H).app _
  (repeat (first | refine yw ?_ | ((first | apply yd | apply ye); simp (disch := first|exact zz|fail) only [go_sem, hl.box1, n1_at g0]; with_reducible rfl)))
  generalize (H ++ [AObj.cells true 0 [v]] : AHeap) = G at g0 xG
  refine aops_call_to (rCheckMap_c (hl.ext xG) hb) ?_
  (refine yg ?_)
  exact fin_1 ⟨rfl, xG⟩
end
end Go.Lq
