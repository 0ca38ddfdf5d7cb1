/- Towards ResampleBetween of seat YtlcfgealkjomnaaDoor: it returns true for every input. Made out of the proof's own texts, merged. -/
import Derived.KernelRfl
import Derived.Test.YtlcfgealkjomnaaDoorCards
import Derived.Test.YtlcfgealkjomnaaDoorTie
import Derived.LaidMore
import Derived.Test.YtlcfgealkjomnaaDoorV61
set_option linter.unusedSimpArgs false
set_option linter.unnecessarySimpa false
set_option linter.unusedVariables false
set_option maxRecDepth 100000
namespace Go.Lq
open Go

def R52 : RFunc :=
  ⟨(.seq (.ops [⟨(some 1), (.box (.tmp 0)), none⟩, ⟨(some 2), (.new [(.slice none 0 0)]), none⟩]) (.seq (.ops [⟨(some 3), (.buildSlice 2 0 [] []), none⟩, ⟨(some 4), (.fieldAddr 0 (.tmp 1)), none⟩, ⟨(some 5), (.load (.tmp 4)), none⟩, ⟨(some 6), (.append 2 16 (.tmp 3) (.tmp 5)), none⟩, ⟨(some 7), (.build [(.slice none 0 0)] [(0, (1, (.tmp 6)))]), none⟩, ⟨none, (.store 1 (.tmp 2) (.tmp 7)), none⟩]) .ret)), 8, [(.loadN 1 2)]⟩
theorem c52 : compileFn Go.Proofs.Tryd.prog Go.Proofs.Tryd.f52 = some R52 := by kernel_rfl
theorem n52 : R52.ntmps = 8 := rfl
theorem a52 {args : List Value} {H : AHeap} {Q : Value → AHeap → Prop} (h : AWP Go.Proofs.Tryd.prog none R52.code (Fin R52 Q) (args ++ List.replicate (R52.ntmps - args.length) undef) H) : ACall Go.Proofs.Tryd.prog 52 args H Q := acall_intro mo Go.Proofs.Tryd.func52 c52 h

def R54 : RFunc :=
  ⟨(.seq (.ops [⟨(some 4), (.mov (.const (.int .i64 0))), none⟩]) (.seq (.ops [⟨(some 6), (.mov (.tmp 0)), none⟩, ⟨(some 7), (.mov (.tmp 1)), none⟩, ⟨(some 8), (.arith .quo (.tmp 6) (.tmp 7)), none⟩, ⟨(some 5), (.mov (.tmp 8)), none⟩]) (.seq (.seq (.ops [⟨(some 9), (.mov (.tmp 0)), none⟩, ⟨(some 10), (.mov (.tmp 1)), none⟩, ⟨(some 11), (.arith .rem (.tmp 9) (.tmp 10)), none⟩, ⟨(some 12), (.cmp .lss (.tmp 11) (.const (.int .i64 0))), none⟩]) (.cond (.tmp 12) (.ops [⟨(some 13), (.mov (.tmp 5)), none⟩, ⟨(some 14), (.arith .sub (.tmp 13) (.const (.int .i64 1))), none⟩, ⟨(some 5), (.mov (.tmp 14)), none⟩]) .skip)) (.seq (.ops [⟨(some 15), (.mov (.tmp 5)), none⟩, ⟨(some 4), (.mov (.tmp 15)), none⟩]) .ret)))), 16, [(.tmp 4)]⟩
theorem c54 : compileFn Go.Proofs.Tryd.prog Go.Proofs.Tryd.f54 = some R54 := by kernel_rfl
theorem n54 : R54.ntmps = 16 := rfl
theorem a54 {args : List Value} {H : AHeap} {Q : Value → AHeap → Prop} (h : AWP Go.Proofs.Tryd.prog none R54.code (Fin R54 Q) (args ++ List.replicate (R54.ntmps - args.length) undef) H) : ACall Go.Proofs.Tryd.prog 54 args H Q := acall_intro mo Go.Proofs.Tryd.func54 c54 h

def R55 : RFunc :=
  ⟨(.seq (.ops [⟨(some 1), (.box (.tmp 0)), none⟩, ⟨(some 2), (.mov (.const (.bool false))), none⟩]) (.seq (.ops [⟨(some 3), (.fieldAddr 0 (.tmp 1)), none⟩, ⟨(some 4), (.load (.tmp 3)), none⟩, ⟨(some 5), (.len (.tmp 4)), none⟩, ⟨(some 6), (.cmp .leq (.tmp 5) (.const (.int .i64 10))), none⟩, ⟨(some 2), (.mov (.tmp 6)), none⟩]) .ret)), 7, [(.tmp 2)]⟩
theorem c55 : compileFn Go.Proofs.Tryd.prog Go.Proofs.Tryd.f55 = some R55 := by kernel_rfl
theorem n55 : R55.ntmps = 7 := rfl
theorem a55 {args : List Value} {H : AHeap} {Q : Value → AHeap → Prop} (h : AWP Go.Proofs.Tryd.prog none R55.code (Fin R55 Q) (args ++ List.replicate (R55.ntmps - args.length) undef) H) : ACall Go.Proofs.Tryd.prog 55 args H Q := acall_intro mo Go.Proofs.Tryd.func55 c55 h

def R56 : RFunc :=
  ⟨(.seq (.ops [⟨(some 2), (.box (.tmp 0)), none⟩, ⟨(some 4), (.mov (.const (.slice none 0 0))), none⟩, ⟨(some 5), (.mov (.const (.int .i64 0))), none⟩]) (.seq (.seq (.ops [⟨(some 12), (.loadN 2 (.tmp 2)), none⟩, ⟨(some 13), (.call (.func 59) [(.tmp 12)]), none⟩, ⟨(some 14), (.mov (.tmp 1)), none⟩, ⟨(some 15), (.call (.func 89) [(.tmp 14)]), none⟩, ⟨(some 16), (.buildSlice 1 2 [(.int .i64 0), (.int .i64 0)] [(0, (1, (.tmp 13))), (1, (1, (.tmp 15)))]), none⟩, ⟨(some 17), (.call (.func 88) [(.tmp 16)]), none⟩, ⟨(some 6), (.mov (.tmp 17)), none⟩]) (.seq (.ops [⟨(some 18), (.mov (.tmp 6)), none⟩, ⟨(some 19), (.cmp .neq (.tmp 18) (.const (.int .i64 0))), none⟩]) (.cond (.tmp 19) (.seq (.ops [⟨(some 20), (.mov (.tmp 6)), none⟩, ⟨(some 4), (.mov (.const (.slice none 0 0))), none⟩, ⟨(some 5), (.mov (.tmp 20)), none⟩]) .ret) .skip))) (.seq (.ops [⟨(some 7), (.mov (.const (.slice none 0 0))), none⟩]) (.seq (.seq (.ops [⟨(some 21), (.mov (.tmp 1)), none⟩, ⟨(some 22), (.len (.tmp 21)), none⟩, ⟨(some 23), (.mov (.const (.int .i64 0))), none⟩]) (.block 0 (.loop (.seq (.ops [⟨(some 24), (.cmp .lss (.tmp 23) (.tmp 22)), none⟩]) (.seq (.cond (.tmp 24) .skip (.exit 0)) (.seq (.block 1 (.seq (.ops [⟨(some 25), (.mov (.tmp 23)), none⟩, ⟨(some 8), (.mov (.tmp 25)), none⟩]) (.seq (.ops [⟨(some 9), (.mov (.const (.int .i64 0))), none⟩]) (.seq (.seq (.ops [⟨(some 26), (.fieldAddr 0 (.tmp 2)), none⟩, ⟨(some 27), (.load (.tmp 26)), none⟩, ⟨(some 28), (.len (.tmp 27)), none⟩, ⟨(some 29), (.mov (.const (.int .i64 0))), none⟩]) (.block 2 (.loop (.seq (.ops [⟨(some 30), (.cmp .lss (.tmp 29) (.tmp 28)), none⟩]) (.seq (.cond (.tmp 30) .skip (.exit 2)) (.seq (.block 3 (.seq (.ops [⟨(some 31), (.mov (.tmp 29)), none⟩, ⟨(some 32), (.idxAddr 1 (.tmp 27) (.tmp 29)), none⟩, ⟨(some 33), (.load (.tmp 32)), none⟩, ⟨(some 10), (.mov (.tmp 31)), none⟩, ⟨(some 11), (.mov (.tmp 33)), none⟩]) (.seq (.ops [⟨(some 34), (.mov (.tmp 10)), none⟩, ⟨(some 35), (.mov (.tmp 8)), none⟩, ⟨(some 36), (.cmp .leq (.tmp 34) (.tmp 35)), none⟩]) (.cond (.tmp 36) (.ops [⟨(some 37), (.mov (.tmp 9)), none⟩, ⟨(some 38), (.mov (.tmp 11)), none⟩, ⟨(some 39), (.mov (.tmp 1)), none⟩, ⟨(some 40), (.mov (.tmp 8)), none⟩, ⟨(some 41), (.mov (.tmp 10)), none⟩, ⟨(some 42), (.arith .sub (.tmp 40) (.tmp 41)), none⟩, ⟨(some 43), (.idxAddr 1 (.tmp 39) (.tmp 42)), none⟩, ⟨(some 44), (.load (.tmp 43)), none⟩, ⟨(some 45), (.arith .mul (.tmp 38) (.tmp 44)), none⟩, ⟨(some 46), (.arith .add (.tmp 37) (.tmp 45)), none⟩, ⟨(some 9), (.mov (.tmp 46)), none⟩]) .skip)))) (.ops [⟨(some 47), (.arith .add (.tmp 29) (.const (.int .i64 1))), none⟩, ⟨(some 29), (.mov (.tmp 47)), none⟩]))))))) (.ops [⟨(some 48), (.mov (.tmp 7)), none⟩, ⟨(some 49), (.mov (.tmp 9)), none⟩, ⟨(some 50), (.fieldAddr 1 (.tmp 2)), none⟩, ⟨(some 51), (.load (.tmp 50)), none⟩, ⟨(some 52), (.call (.func 91) [(.tmp 49), (.tmp 51)]), none⟩, ⟨(some 53), (.buildSlice 1 1 [(.int .i64 0)] [(0, (1, (.tmp 52)))]), none⟩, ⟨(some 54), (.append 1 8 (.tmp 48) (.tmp 53)), none⟩, ⟨(some 7), (.mov (.tmp 54)), none⟩]))))) (.ops [⟨(some 55), (.arith .add (.tmp 23) (.const (.int .i64 1))), none⟩, ⟨(some 23), (.mov (.tmp 55)), none⟩]))))))) (.seq (.ops [⟨(some 56), (.mov (.tmp 7)), none⟩, ⟨(some 4), (.mov (.tmp 56)), none⟩, ⟨(some 5), (.mov (.const (.int .i64 0))), none⟩]) .ret))))), 57, [(.tmp 4), (.tmp 5)]⟩
theorem c56 : compileFn Go.Proofs.Tryd.prog Go.Proofs.Tryd.f56 = some R56 := by kernel_rfl
theorem n56 : R56.ntmps = 57 := rfl
theorem a56 {args : List Value} {H : AHeap} {Q : Value → AHeap → Prop} (h : AWP Go.Proofs.Tryd.prog none R56.code (Fin R56 Q) (args ++ List.replicate (R56.ntmps - args.length) undef) H) : ACall Go.Proofs.Tryd.prog 56 args H Q := acall_intro mo Go.Proofs.Tryd.func56 c56 h

def R57 : RFunc :=
  ⟨(.seq (.ops [⟨(some 1), (.box (.tmp 0)), none⟩, ⟨(some 2), (.new [(.slice none 0 0), (.int .i64 0)]), none⟩]) (.seq (.draw [(⟨(some 3), (.fieldAddr 0 (.tmp 1)), none⟩, false), (⟨(some 4), (.load (.tmp 3)), none⟩, false), (⟨(some 5), (.call (.func 25) [(.tmp 4)]), none⟩, false), (⟨(some 6), (.fieldAddr 1 (.tmp 1)), none⟩, false), (⟨(some 7), (.load (.tmp 6)), none⟩, false), (⟨(some 8), (.build [(.slice none 0 0), (.int .i64 0)] [(0, (1, (.tmp 5))), (1, (1, (.tmp 7)))]), none⟩, false), (⟨none, (.store 2 (.tmp 2) (.tmp 8)), none⟩, false)]) .ret)), 9, [(.loadN 2 2)]⟩
theorem c57 : compileFn Go.Proofs.Tryd.prog Go.Proofs.Tryd.f57 = some R57 := by kernel_rfl
theorem n57 : R57.ntmps = 9 := rfl
theorem a57 {args : List Value} {H : AHeap} {Q : Value → AHeap → Prop} (h : AWP Go.Proofs.Tryd.prog none R57.code (Fin R57 Q) (args ++ List.replicate (R57.ntmps - args.length) undef) H) : ACall Go.Proofs.Tryd.prog 57 args H Q := acall_intro mo Go.Proofs.Tryd.func57 c57 h

def R58 : RFunc :=
  ⟨(.seq (.ops [⟨(some 1), (.box (.tmp 0)), none⟩, ⟨(some 2), (.mov (.const (.int .i64 0))), none⟩]) (.seq (.seq (.ops [⟨(some 4), (.fieldAddr 0 (.tmp 1)), none⟩, ⟨(some 5), (.load (.tmp 4)), none⟩, ⟨(some 6), (.len (.tmp 5)), none⟩, ⟨(some 7), (.cmp .eql (.tmp 6) (.const (.int .i64 0))), none⟩]) (.cond (.tmp 7) (.seq (.ops [⟨(some 2), (.mov (.const (.int .i64 10))), none⟩]) .ret) .skip)) (.seq (.seq (.ops [⟨(some 8), (.fieldAddr 0 (.tmp 1)), none⟩, ⟨(some 9), (.load (.tmp 8)), none⟩, ⟨(some 10), (.len (.tmp 9)), none⟩, ⟨(some 11), (.cmp .gtr (.tmp 10) (.const (.int .i64 8))), none⟩]) (.cond (.tmp 11) (.seq (.ops [⟨(some 2), (.mov (.const (.int .i64 8))), none⟩]) .ret) .skip)) (.seq (.seq (.ops [⟨(some 3), (.mov (.const (.int .i64 0))), none⟩]) (.block 0 (.loop (.seq (.seq (.ops [⟨(some 12), (.mov (.tmp 3)), none⟩, ⟨(some 13), (.fieldAddr 0 (.tmp 1)), none⟩, ⟨(some 14), (.load (.tmp 13)), none⟩, ⟨(some 15), (.len (.tmp 14)), none⟩, ⟨(some 16), (.cmp .lss (.tmp 12) (.tmp 15)), none⟩]) (.cond (.tmp 16) .skip (.exit 0))) (.seq (.block 1 (.seq (.ops [⟨(some 19), (.fieldAddr 0 (.tmp 1)), none⟩, ⟨(some 20), (.load (.tmp 19)), none⟩, ⟨(some 21), (.mov (.tmp 3)), none⟩, ⟨(some 22), (.idxAddr 1 (.tmp 20) (.tmp 21)), none⟩, ⟨(some 23), (.load (.tmp 22)), none⟩, ⟨(some 24), (.call (.func 30) [(.tmp 23), (.const (.int .i64 (-1000))), (.const (.int .i64 1000))]), none⟩, ⟨(some 25), (.not (.tmp 24)), none⟩]) (.cond (.tmp 25) (.seq (.ops [⟨(some 2), (.mov (.const (.int .i64 2))), none⟩]) .ret) .skip))) (.ops [⟨(some 17), (.mov (.tmp 3)), none⟩, ⟨(some 18), (.arith .add (.tmp 17) (.const (.int .i64 1))), none⟩, ⟨(some 3), (.mov (.tmp 18)), none⟩])))))) (.seq (.seq (.ops [⟨(some 26), (.fieldAddr 1 (.tmp 1)), none⟩, ⟨(some 27), (.load (.tmp 26)), none⟩, ⟨(some 28), (.call (.func 30) [(.tmp 27), (.const (.int .i64 1)), (.const (.int .i64 1000))]), none⟩, ⟨(some 29), (.not (.tmp 28)), none⟩]) (.cond (.tmp 29) (.seq (.ops [⟨(some 2), (.mov (.const (.int .i64 2))), none⟩]) .ret) .skip)) (.seq (.ops [⟨(some 2), (.mov (.const (.int .i64 0))), none⟩]) .ret)))))), 30, [(.tmp 2)]⟩
theorem c58 : compileFn Go.Proofs.Tryd.prog Go.Proofs.Tryd.f58 = some R58 := by kernel_rfl
theorem n58 : R58.ntmps = 30 := rfl
theorem a58 {args : List Value} {H : AHeap} {Q : Value → AHeap → Prop} (h : AWP Go.Proofs.Tryd.prog none R58.code (Fin R58 Q) (args ++ List.replicate (R58.ntmps - args.length) undef) H) : ACall Go.Proofs.Tryd.prog 58 args H Q := acall_intro mo Go.Proofs.Tryd.func58 c58 h

def R59 : RFunc :=
  ⟨(.seq (.ops [⟨(some 1), (.box (.tmp 0)), none⟩, ⟨(some 2), (.mov (.const (.int .i64 0))), none⟩]) (.seq (.ops [⟨(some 4), (.fieldAddr 0 (.tmp 1)), none⟩, ⟨(some 5), (.load (.tmp 4)), none⟩, ⟨(some 6), (.call (.func 113) [(.tmp 5), (.func 114)]), none⟩, ⟨(some 3), (.mov (.tmp 6)), none⟩]) (.seq (.draw [(⟨(some 7), (.fieldAddr 0 (.tmp 1)), none⟩, false), (⟨(some 8), (.load (.tmp 7)), none⟩, false), (⟨(some 9), (.len (.tmp 8)), none⟩, false), (⟨(some 10), (.cmp .gtr (.tmp 9) (.const (.int .i64 0))), none⟩, false), (⟨(some 11), (.call (.func 93) [(.tmp 10), (.const (.int .i64 10))]), none⟩, false), (⟨(some 12), (.fieldAddr 0 (.tmp 1)), none⟩, false), (⟨(some 13), (.load (.tmp 12)), none⟩, false), (⟨(some 14), (.len (.tmp 13)), none⟩, false), (⟨(some 15), (.cmp .leq (.tmp 14) (.const (.int .i64 8))), none⟩, false), (⟨(some 16), (.call (.func 93) [(.tmp 15), (.const (.int .i64 8))]), none⟩, false), (⟨(some 17), (.mov (.tmp 3)), none⟩, false), (⟨(some 18), (.not (.tmp 17)), none⟩, false), (⟨(some 19), (.mov (.tmp 18)), none⟩, false), (⟨(some 20), (.fieldAddr 1 (.tmp 1)), (some (19, true))⟩, false), (⟨(some 21), (.load (.tmp 20)), (some (19, true))⟩, false), (⟨(some 22), (.call (.func 116) [(.tmp 21)]), (some (19, true))⟩, false), (⟨(some 23), (.pick (.tmp 19) (.tmp 22) (.const (.bool false))), none⟩, false), (⟨(some 24), (.call (.func 93) [(.tmp 23), (.const (.int .i64 2))]), none⟩, false), (⟨(some 25), (.buildSlice 1 3 [(.int .i64 0), (.int .i64 0), (.int .i64 0)] [(0, (1, (.tmp 11))), (1, (1, (.tmp 16))), (2, (1, (.tmp 24)))]), none⟩, false), (⟨(some 26), (.call (.func 88) [(.tmp 25)]), none⟩, false), (⟨(some 2), (.mov (.tmp 26)), none⟩, false)]) .ret))), 27, [(.tmp 2)]⟩
theorem c59 : compileFn Go.Proofs.Tryd.prog Go.Proofs.Tryd.f59 = some R59 := by kernel_rfl
theorem n59 : R59.ntmps = 27 := rfl
theorem a59 {args : List Value} {H : AHeap} {Q : Value → AHeap → Prop} (h : AWP Go.Proofs.Tryd.prog none R59.code (Fin R59 Q) (args ++ List.replicate (R59.ntmps - args.length) undef) H) : ACall Go.Proofs.Tryd.prog 59 args H Q := acall_intro mo Go.Proofs.Tryd.func59 c59 h

def R60 : RFunc :=
  ⟨(.seq (.ops [⟨(some 2), (.box (.tmp 0)), none⟩, ⟨(some 4), (.mov (.const (.slice none 0 0))), none⟩]) (.seq (.ops [⟨(some 5), (.mov (.const (.slice none 0 0))), none⟩]) (.seq (.seq (.ops [⟨(some 6), (.mov (.const (.int .i64 0))), none⟩]) (.block 0 (.loop (.seq (.seq (.ops [⟨(some 7), (.mov (.tmp 6)), none⟩, ⟨(some 8), (.mov (.tmp 1)), none⟩, ⟨(some 9), (.len (.tmp 8)), none⟩, ⟨(some 10), (.cmp .lss (.tmp 7) (.tmp 9)), none⟩]) (.cond (.tmp 10) .skip (.exit 0))) (.seq (.block 1 (.draw [(⟨(some 13), (.mov (.tmp 5)), none⟩, false), (⟨(some 14), (.loadN 2 (.tmp 2)), none⟩, false), (⟨(some 15), (.mov (.tmp 1)), none⟩, false), (⟨(some 16), (.mov (.tmp 6)), none⟩, false), (⟨(some 17), (.call (.func 85) [(.tmp 14), (.tmp 15), (.tmp 16)]), none⟩, false), (⟨(some 18), (.fieldAddr 1 (.tmp 2)), none⟩, false), (⟨(some 19), (.load (.tmp 18)), none⟩, false), (⟨(some 20), (.call (.func 54) [(.tmp 17), (.tmp 19)]), none⟩, false), (⟨(some 21), (.buildSlice 1 1 [(.int .i64 0)] [(0, (1, (.tmp 20)))]), none⟩, false), (⟨(some 22), (.append 1 8 (.tmp 13) (.tmp 21)), none⟩, false), (⟨(some 5), (.mov (.tmp 22)), none⟩, false)])) (.ops [⟨(some 11), (.mov (.tmp 6)), none⟩, ⟨(some 12), (.arith .add (.tmp 11) (.const (.int .i64 1))), none⟩, ⟨(some 6), (.mov (.tmp 12)), none⟩])))))) (.seq (.ops [⟨(some 23), (.mov (.tmp 5)), none⟩, ⟨(some 4), (.mov (.tmp 23)), none⟩]) .ret)))), 24, [(.tmp 4)]⟩
theorem c60 : compileFn Go.Proofs.Tryd.prog Go.Proofs.Tryd.f60 = some R60 := by kernel_rfl
theorem n60 : R60.ntmps = 24 := rfl
theorem a60 {args : List Value} {H : AHeap} {Q : Value → AHeap → Prop} (h : AWP Go.Proofs.Tryd.prog none R60.code (Fin R60 Q) (args ++ List.replicate (R60.ntmps - args.length) undef) H) : ACall Go.Proofs.Tryd.prog 60 args H Q := acall_intro mo Go.Proofs.Tryd.func60 c60 h

def R61 : RFunc :=
  ⟨(.seq (.ops [⟨(some 2), (.box (.tmp 0)), none⟩, ⟨(some 4), (.mov (.const (.slice none 0 0))), none⟩, ⟨(some 5), (.mov (.const (.int .i64 0))), none⟩]) (.seq (.seq (.ops [⟨(some 12), (.loadN 3 (.tmp 2)), none⟩, ⟨(some 13), (.call (.func 72) [(.tmp 12)]), none⟩, ⟨(some 14), (.mov (.tmp 1)), none⟩, ⟨(some 15), (.call (.func 89) [(.tmp 14)]), none⟩, ⟨(some 16), (.buildSlice 1 2 [(.int .i64 0), (.int .i64 0)] [(0, (1, (.tmp 13))), (1, (1, (.tmp 15)))]), none⟩, ⟨(some 17), (.call (.func 88) [(.tmp 16)]), none⟩, ⟨(some 6), (.mov (.tmp 17)), none⟩]) (.seq (.ops [⟨(some 18), (.mov (.tmp 6)), none⟩, ⟨(some 19), (.cmp .neq (.tmp 18) (.const (.int .i64 0))), none⟩]) (.cond (.tmp 19) (.seq (.ops [⟨(some 20), (.mov (.tmp 6)), none⟩, ⟨(some 4), (.mov (.const (.slice none 0 0))), none⟩, ⟨(some 5), (.mov (.tmp 20)), none⟩]) .ret) .skip))) (.seq (.ops [⟨(some 21), (.loadN 3 (.tmp 2)), none⟩, ⟨(some 22), (.build [(.int .i64 0), (.int .i64 0), (.int .i64 0), (.int .i64 0), (.int .i64 0)] [(0, (3, (.tmp 21)))]), none⟩, ⟨(some 23), (.box (.tmp 22)), none⟩, ⟨(some 7), (.mov (.tmp 23)), none⟩]) (.seq (.ops [⟨(some 8), (.mov (.const (.slice none 0 0))), none⟩]) (.seq (.seq (.ops [⟨(some 24), (.mov (.tmp 1)), none⟩, ⟨(some 25), (.len (.tmp 24)), none⟩, ⟨(some 26), (.mov (.const (.int .i64 0))), none⟩]) (.block 0 (.loop (.seq (.ops [⟨(some 27), (.cmp .lss (.tmp 26) (.tmp 25)), none⟩]) (.seq (.cond (.tmp 27) .skip (.exit 0)) (.seq (.block 1 (.seq (.ops [⟨(some 28), (.idxAddr 1 (.tmp 24) (.tmp 26)), none⟩, ⟨(some 29), (.load (.tmp 28)), none⟩, ⟨(some 10), (.mov (.tmp 29)), none⟩]) (.seq (.ops [⟨(some 30), (.mov (.tmp 10)), none⟩, ⟨(some 31), (.mov (.tmp 7)), none⟩, ⟨(some 32), (.call (.func 117) [(.tmp 31)]), none⟩, ⟨(some 33), (.arith .add (.tmp 30) (.tmp 32)), none⟩, ⟨(some 11), (.mov (.tmp 33)), none⟩]) (.seq (.seq (.ops [⟨(some 34), (.mov (.tmp 11)), none⟩, ⟨(some 35), (.call (.func 118) [(.tmp 34), (.const (.int .i64 1000000000000000))]), none⟩, ⟨(some 36), (.not (.tmp 35)), none⟩]) (.cond (.tmp 36) (.seq (.ops [⟨(some 4), (.mov (.const (.slice none 0 0))), none⟩, ⟨(some 5), (.mov (.const (.int .i64 23))), none⟩]) .ret) .skip)) (.seq (.ops [⟨(some 37), (.mov (.tmp 7)), none⟩, ⟨(some 38), (.mov (.tmp 11)), none⟩, ⟨(some 39), (.call (.func 119) [(.tmp 37), (.tmp 38)]), none⟩]) (.ops [⟨(some 40), (.mov (.tmp 8)), none⟩, ⟨(some 41), (.mov (.tmp 11)), none⟩, ⟨(some 42), (.buildSlice 1 1 [(.int .i64 0)] [(0, (1, (.tmp 41)))]), none⟩, ⟨(some 43), (.append 1 8 (.tmp 40) (.tmp 42)), none⟩, ⟨(some 8), (.mov (.tmp 43)), none⟩])))))) (.ops [⟨(some 44), (.arith .add (.tmp 26) (.const (.int .i64 1))), none⟩, ⟨(some 26), (.mov (.tmp 44)), none⟩]))))))) (.seq (.ops [⟨(some 45), (.mov (.tmp 8)), none⟩, ⟨(some 4), (.mov (.tmp 45)), none⟩, ⟨(some 5), (.mov (.const (.int .i64 0))), none⟩]) .ret)))))), 46, [(.tmp 4), (.tmp 5)]⟩
theorem c61 : compileFn Go.Proofs.Tryd.prog Go.Proofs.Tryd.f61 = some R61 := by kernel_rfl
theorem n61 : R61.ntmps = 46 := rfl
theorem a61 {args : List Value} {H : AHeap} {Q : Value → AHeap → Prop} (h : AWP Go.Proofs.Tryd.prog none R61.code (Fin R61 Q) (args ++ List.replicate (R61.ntmps - args.length) undef) H) : ACall Go.Proofs.Tryd.prog 61 args H Q := acall_intro mo Go.Proofs.Tryd.func61 c61 h

def R62 : RFunc :=
  ⟨(.seq (.ops [⟨(some 4), (.mov (.const (.slice none 0 0))), none⟩, ⟨(some 5), (.mov (.const (.int .i64 0))), none⟩]) (.seq (.seq (.ops [⟨(some 9), (.mov (.tmp 0)), none⟩, ⟨(some 10), (.call (.func 89) [(.tmp 9)]), none⟩, ⟨(some 11), (.mov (.tmp 1)), none⟩, ⟨(some 12), (.call (.func 94) [(.tmp 11), (.const (.int .i64 1)), (.const (.int .i64 4))]), none⟩, ⟨(some 13), (.call (.func 93) [(.tmp 12), (.const (.int .i64 2))]), none⟩, ⟨(some 14), (.buildSlice 1 2 [(.int .i64 0), (.int .i64 0)] [(0, (1, (.tmp 10))), (1, (1, (.tmp 13)))]), none⟩, ⟨(some 15), (.call (.func 88) [(.tmp 14)]), none⟩, ⟨(some 6), (.mov (.tmp 15)), none⟩]) (.seq (.ops [⟨(some 16), (.mov (.tmp 6)), none⟩, ⟨(some 17), (.cmp .neq (.tmp 16) (.const (.int .i64 0))), none⟩]) (.cond (.tmp 17) (.seq (.ops [⟨(some 18), (.mov (.tmp 6)), none⟩, ⟨(some 4), (.mov (.const (.slice none 0 0))), none⟩, ⟨(some 5), (.mov (.tmp 18)), none⟩]) .ret) .skip))) (.seq (.ops [⟨(some 19), (.mov (.tmp 0)), none⟩, ⟨(some 20), (.call (.func 120) [(.tmp 19)]), none⟩, ⟨(some 7), (.mov (.tmp 20)), none⟩]) (.seq (.seq (.ops [⟨(some 21), (.mov (.tmp 1)), none⟩, ⟨(some 22), (.mov (.const (.int .i64 0))), none⟩]) (.block 0 (.loop (.seq (.ops [⟨(some 23), (.cmp .lss (.tmp 22) (.tmp 21)), none⟩]) (.seq (.cond (.tmp 23) .skip (.exit 0)) (.seq (.block 1 (.seq (.seq (.ops [⟨(some 8), (.mov (.const (.int .i64 1))), none⟩]) (.block 2 (.loop (.seq (.seq (.ops [⟨(some 24), (.mov (.tmp 8)), none⟩, ⟨(some 25), (.mov (.tmp 7)), none⟩, ⟨(some 26), (.len (.tmp 25)), none⟩, ⟨(some 27), (.cmp .lss (.tmp 24) (.tmp 26)), none⟩]) (.cond (.tmp 27) .skip (.exit 2))) (.seq (.block 3 (.draw [(⟨(some 30), (.mov (.tmp 7)), none⟩, false), (⟨(some 31), (.mov (.tmp 8)), none⟩, false), (⟨(some 32), (.arith .sub (.tmp 31) (.const (.int .i64 1))), none⟩, false), (⟨(some 33), (.mov (.tmp 7)), none⟩, false), (⟨(some 34), (.mov (.tmp 8)), none⟩, false), (⟨(some 35), (.idxAddr 1 (.tmp 33) (.tmp 34)), none⟩, false), (⟨(some 36), (.load (.tmp 35)), none⟩, false), (⟨(some 37), (.mov (.tmp 7)), none⟩, false), (⟨(some 38), (.mov (.tmp 8)), none⟩, false), (⟨(some 39), (.arith .sub (.tmp 38) (.const (.int .i64 1))), none⟩, false), (⟨(some 40), (.idxAddr 1 (.tmp 37) (.tmp 39)), none⟩, false), (⟨(some 41), (.load (.tmp 40)), none⟩, false), (⟨(some 42), (.arith .sub (.tmp 36) (.tmp 41)), none⟩, false), (⟨(some 43), (.idxAddr 1 (.tmp 30) (.tmp 32)), none⟩, false), (⟨none, (.store 1 (.tmp 43) (.tmp 42)), none⟩, false)])) (.ops [⟨(some 28), (.mov (.tmp 8)), none⟩, ⟨(some 29), (.arith .add (.tmp 28) (.const (.int .i64 1))), none⟩, ⟨(some 8), (.mov (.tmp 29)), none⟩])))))) (.ops [⟨(some 44), (.mov (.tmp 7)), none⟩, ⟨(some 45), (.mov (.tmp 7)), none⟩, ⟨(some 46), (.len (.tmp 45)), none⟩, ⟨(some 47), (.arith .sub (.tmp 46) (.const (.int .i64 1))), none⟩, ⟨(some 48), (.most true (.const (.int .i64 0)) [(.tmp 47)]), none⟩, ⟨(some 49), (.slice 1 (.tmp 44) none (some (.tmp 48)) none), none⟩, ⟨(some 7), (.mov (.tmp 49)), none⟩]))) (.ops [⟨(some 50), (.arith .add (.tmp 22) (.const (.int .i64 1))), none⟩, ⟨(some 22), (.mov (.tmp 50)), none⟩]))))))) (.seq (.ops [⟨(some 51), (.mov (.tmp 7)), none⟩, ⟨(some 4), (.mov (.tmp 51)), none⟩, ⟨(some 5), (.mov (.const (.int .i64 0))), none⟩]) .ret))))), 52, [(.tmp 4), (.tmp 5)]⟩
theorem c62 : compileFn Go.Proofs.Tryd.prog Go.Proofs.Tryd.f62 = some R62 := by kernel_rfl
theorem n62 : R62.ntmps = 52 := rfl
theorem a62 {args : List Value} {H : AHeap} {Q : Value → AHeap → Prop} (h : AWP Go.Proofs.Tryd.prog none R62.code (Fin R62 Q) (args ++ List.replicate (R62.ntmps - args.length) undef) H) : ACall Go.Proofs.Tryd.prog 62 args H Q := acall_intro mo Go.Proofs.Tryd.func62 c62 h

def R63 : RFunc :=
  ⟨(.seq (.ops [⟨(some 4), (.new [(.int .i64 0), (.int .i64 0)]), none⟩, ⟨(some 5), (.mov (.const (.int .i64 0))), none⟩]) (.seq (.seq (.ops [⟨(some 8), (.mov (.tmp 0)), none⟩, ⟨(some 9), (.call (.func 95) [(.tmp 8)]), none⟩, ⟨(some 10), (.mov (.tmp 1)), none⟩, ⟨(some 11), (.call (.func 99) [(.tmp 10)]), none⟩, ⟨(some 12), (.buildSlice 1 2 [(.int .i64 0), (.int .i64 0)] [(0, (1, (.tmp 9))), (1, (1, (.tmp 11)))]), none⟩, ⟨(some 13), (.call (.func 88) [(.tmp 12)]), none⟩, ⟨(some 6), (.mov (.tmp 13)), none⟩]) (.seq (.ops [⟨(some 14), (.mov (.tmp 6)), none⟩, ⟨(some 15), (.cmp .neq (.tmp 14) (.const (.int .i64 0))), none⟩]) (.cond (.tmp 15) (.seq (.ops [⟨(some 16), (.build [(.int .i64 0), (.int .i64 0)] []), none⟩, ⟨(some 17), (.mov (.tmp 6)), none⟩, ⟨none, (.store 2 (.tmp 4) (.tmp 16)), none⟩, ⟨(some 5), (.mov (.tmp 17)), none⟩]) .ret) .skip))) (.seq (.ops [⟨(some 18), (.mov (.tmp 0)), none⟩, ⟨(some 19), (.idxAddrA 4 5 (.global 0) (.tmp 18)), none⟩, ⟨(some 20), (.loadN 5 (.tmp 19)), none⟩, ⟨(some 7), (.new [(.int .i64 0), (.int .i64 0), .nilFunc, .nilFunc, (.int .i64 0)]), none⟩, ⟨none, (.store 5 (.tmp 7) (.tmp 20)), none⟩]) (.seq (.draw [(⟨(some 21), (.fieldAddr 3 (.tmp 7)), none⟩, false), (⟨(some 22), (.load (.tmp 21)), none⟩, false), (⟨(some 23), (.mov (.tmp 1)), none⟩, false), (⟨(some 24), (.call (.tmp 22) [(.tmp 23)]), none⟩, false), (⟨(some 25), (.fieldAddr 4 (.tmp 7)), none⟩, false), (⟨(some 26), (.load (.tmp 25)), none⟩, false), (⟨(some 27), (.call (.func 121) [(.tmp 24), (.tmp 26)]), none⟩, false), (⟨none, (.store 2 (.tmp 4) (.tmp 27)), none⟩, false), (⟨(some 5), (.mov (.const (.int .i64 0))), none⟩, false)]) .ret)))), 28, [(.loadN 2 4), (.tmp 5)]⟩
theorem c63 : compileFn Go.Proofs.Tryd.prog Go.Proofs.Tryd.f63 = some R63 := by kernel_rfl
theorem n63 : R63.ntmps = 28 := rfl
theorem a63 {args : List Value} {H : AHeap} {Q : Value → AHeap → Prop} (h : AWP Go.Proofs.Tryd.prog none R63.code (Fin R63 Q) (args ++ List.replicate (R63.ntmps - args.length) undef) H) : ACall Go.Proofs.Tryd.prog 63 args H Q := acall_intro mo Go.Proofs.Tryd.func63 c63 h

def R64 : RFunc :=
  ⟨(.seq (.ops [⟨(some 2), (.new [(.int .i64 0), (.int .i64 0)]), none⟩, ⟨(some 3), (.mov (.const (.int .i64 0))), none⟩]) (.seq (.seq (.ops [⟨(some 9), (.mov (.tmp 0)), none⟩, ⟨(some 10), (.call (.func 95) [(.tmp 9)]), none⟩, ⟨(some 4), (.mov (.tmp 10)), none⟩]) (.seq (.ops [⟨(some 11), (.mov (.tmp 4)), none⟩, ⟨(some 12), (.cmp .neq (.tmp 11) (.const (.int .i64 0))), none⟩]) (.cond (.tmp 12) (.seq (.ops [⟨(some 13), (.build [(.int .i64 0), (.int .i64 0)] []), none⟩, ⟨(some 14), (.mov (.tmp 4)), none⟩, ⟨none, (.store 2 (.tmp 2) (.tmp 13)), none⟩, ⟨(some 3), (.mov (.tmp 14)), none⟩]) .ret) .skip))) (.seq (.ops [⟨(some 15), (.mov (.tmp 0)), none⟩, ⟨(some 16), (.idxAddrA 4 5 (.global 0) (.tmp 15)), none⟩, ⟨(some 17), (.loadN 5 (.tmp 16)), none⟩, ⟨(some 5), (.new [(.int .i64 0), (.int .i64 0), .nilFunc, .nilFunc, (.int .i64 0)]), none⟩, ⟨none, (.store 5 (.tmp 5) (.tmp 17)), none⟩]) (.seq (.ops [⟨(some 6), (.mov (.const (.int .i64 0))), none⟩]) (.seq (.seq (.ops [⟨(some 18), (.mov (.const (.int .i64 0))), none⟩]) (.block 0 (.loop (.seq (.ops [⟨(some 19), (.cmp .lss (.tmp 18) (.const (.int .i64 64))), none⟩]) (.seq (.cond (.tmp 19) .skip (.exit 0)) (.seq (.block 1 (.seq (.ops [⟨(some 20), (.mov (.tmp 18)), none⟩, ⟨(some 7), (.mov (.tmp 20)), none⟩]) (.seq (.ops [⟨(some 21), (.fieldAddr 3 (.tmp 5)), none⟩, ⟨(some 22), (.load (.tmp 21)), none⟩, ⟨(some 23), (.mov (.tmp 7)), none⟩, ⟨(some 24), (.call (.tmp 22) [(.tmp 23)]), none⟩, ⟨(some 8), (.mov (.tmp 24)), none⟩]) (.ops [⟨(some 25), (.mov (.tmp 6)), none⟩, ⟨(some 26), (.mov (.tmp 8)), none⟩, ⟨(some 27), (.mov (.tmp 8)), none⟩, ⟨(some 28), (.neg (.tmp 27)), none⟩, ⟨(some 29), (.most true (.tmp 25) [(.tmp 26), (.tmp 28)]), none⟩, ⟨(some 6), (.mov (.tmp 29)), none⟩])))) (.ops [⟨(some 30), (.arith .add (.tmp 18) (.const (.int .i64 1))), none⟩, ⟨(some 18), (.mov (.tmp 30)), none⟩]))))))) (.seq (.ops [⟨(some 31), (.mov (.tmp 6)), none⟩, ⟨(some 32), (.fieldAddr 4 (.tmp 5)), none⟩, ⟨(some 33), (.load (.tmp 32)), none⟩, ⟨(some 34), (.call (.func 121) [(.tmp 31), (.tmp 33)]), none⟩, ⟨none, (.store 2 (.tmp 2) (.tmp 34)), none⟩, ⟨(some 3), (.mov (.const (.int .i64 0))), none⟩]) .ret)))))), 35, [(.loadN 2 2), (.tmp 3)]⟩
theorem c64 : compileFn Go.Proofs.Tryd.prog Go.Proofs.Tryd.f64 = some R64 := by kernel_rfl
theorem n64 : R64.ntmps = 35 := rfl
theorem a64 {args : List Value} {H : AHeap} {Q : Value → AHeap → Prop} (h : AWP Go.Proofs.Tryd.prog none R64.code (Fin R64 Q) (args ++ List.replicate (R64.ntmps - args.length) undef) H) : ACall Go.Proofs.Tryd.prog 64 args H Q := acall_intro mo Go.Proofs.Tryd.func64 c64 h

def R68 : RFunc :=
  ⟨(.seq (.ops [⟨(some 4), (.mov (.const (.slice none 0 0))), none⟩]) (.seq (.ops [⟨(some 9), (.mov (.tmp 0)), none⟩, ⟨(some 10), (.call (.func 25) [(.tmp 9)]), none⟩, ⟨(some 5), (.mov (.tmp 10)), none⟩]) (.seq (.seq (.ops [⟨(some 6), (.mov (.const (.int .i64 0))), none⟩]) (.block 0 (.loop (.seq (.seq (.ops [⟨(some 11), (.mov (.tmp 6)), none⟩, ⟨(some 12), (.mov (.tmp 1)), none⟩, ⟨(some 13), (.cmp .lss (.tmp 11) (.tmp 12)), none⟩]) (.cond (.tmp 13) .skip (.exit 0))) (.seq (.block 1 (.seq (.ops [⟨(some 7), (.mov (.const (.slice none 0 0))), none⟩]) (.seq (.seq (.ops [⟨(some 8), (.mov (.const (.int .i64 1))), none⟩]) (.block 2 (.loop (.seq (.seq (.ops [⟨(some 16), (.mov (.tmp 8)), none⟩, ⟨(some 17), (.mov (.tmp 5)), none⟩, ⟨(some 18), (.len (.tmp 17)), none⟩, ⟨(some 19), (.cmp .lss (.tmp 16) (.tmp 18)), none⟩]) (.cond (.tmp 19) .skip (.exit 2))) (.seq (.block 3 (.draw [(⟨(some 22), (.mov (.tmp 7)), none⟩, false), (⟨(some 23), (.mov (.tmp 5)), none⟩, false), (⟨(some 24), (.mov (.tmp 8)), none⟩, false), (⟨(some 25), (.idxAddr 1 (.tmp 23) (.tmp 24)), none⟩, false), (⟨(some 26), (.load (.tmp 25)), none⟩, false), (⟨(some 27), (.mov (.tmp 5)), none⟩, false), (⟨(some 28), (.mov (.tmp 8)), none⟩, false), (⟨(some 29), (.arith .sub (.tmp 28) (.const (.int .i64 1))), none⟩, false), (⟨(some 30), (.idxAddr 1 (.tmp 27) (.tmp 29)), none⟩, false), (⟨(some 31), (.load (.tmp 30)), none⟩, false), (⟨(some 32), (.arith .sub (.tmp 26) (.tmp 31)), none⟩, false), (⟨(some 33), (.buildSlice 1 1 [(.int .i64 0)] [(0, (1, (.tmp 32)))]), none⟩, false), (⟨(some 34), (.append 1 8 (.tmp 22) (.tmp 33)), none⟩, false), (⟨(some 7), (.mov (.tmp 34)), none⟩, false)])) (.ops [⟨(some 20), (.mov (.tmp 8)), none⟩, ⟨(some 21), (.arith .add (.tmp 20) (.const (.int .i64 1))), none⟩, ⟨(some 8), (.mov (.tmp 21)), none⟩])))))) (.ops [⟨(some 35), (.mov (.tmp 7)), none⟩, ⟨(some 5), (.mov (.tmp 35)), none⟩])))) (.ops [⟨(some 14), (.mov (.tmp 6)), none⟩, ⟨(some 15), (.arith .add (.tmp 14) (.const (.int .i64 1))), none⟩, ⟨(some 6), (.mov (.tmp 15)), none⟩])))))) (.seq (.ops [⟨(some 36), (.mov (.tmp 5)), none⟩, ⟨(some 4), (.mov (.tmp 36)), none⟩]) .ret)))), 37, [(.tmp 4)]⟩
theorem c68 : compileFn Go.Proofs.Tryd.prog Go.Proofs.Tryd.f68 = some R68 := by kernel_rfl
theorem n68 : R68.ntmps = 37 := rfl
theorem a68 {args : List Value} {H : AHeap} {Q : Value → AHeap → Prop} (h : AWP Go.Proofs.Tryd.prog none R68.code (Fin R68 Q) (args ++ List.replicate (R68.ntmps - args.length) undef) H) : ACall Go.Proofs.Tryd.prog 68 args H Q := acall_intro mo Go.Proofs.Tryd.func68 c68 h

def R69 : RFunc :=
  ⟨(.seq (.ops [⟨(some 2), (.new [(.int .i64 0), (.int .i64 0)]), none⟩]) (.seq (.ops [⟨(some 6), (.call (.func 123) [(.const (.int .i64 0))]), none⟩, ⟨(some 3), (.new [(.int .i64 0), (.int .i64 0)]), none⟩, ⟨none, (.store 2 (.tmp 3) (.tmp 6)), none⟩]) (.seq (.seq (.ops [⟨(some 4), (.mov (.const (.int .i64 0))), none⟩]) (.block 0 (.loop (.seq (.seq (.ops [⟨(some 7), (.mov (.tmp 4)), none⟩, ⟨(some 8), (.cmp .lss (.tmp 7) (.const (.int .i64 64))), none⟩]) (.cond (.tmp 8) .skip (.exit 0))) (.seq (.block 1 (.seq (.ops [⟨(some 11), (.mov (.tmp 0)), none⟩, ⟨(some 12), (.mov (.tmp 4)), none⟩, ⟨(some 13), (.call (.func 70) [(.tmp 11), (.tmp 12)]), none⟩, ⟨(some 5), (.new [(.int .i64 0), (.int .i64 0)]), none⟩, ⟨none, (.store 2 (.tmp 5) (.tmp 13)), none⟩]) (.seq (.ops [⟨(some 14), (.fieldAddr 0 (.tmp 5)), none⟩, ⟨(some 15), (.load (.tmp 14)), none⟩, ⟨(some 16), (.call (.func 35) [(.tmp 15)]), none⟩, ⟨(some 17), (.fieldAddr 0 (.tmp 5)), none⟩, ⟨none, (.store 1 (.tmp 17) (.tmp 16)), none⟩]) (.seq (.ops [⟨(some 18), (.loadN 2 (.tmp 5)), none⟩, ⟨(some 19), (.loadN 2 (.tmp 3)), none⟩, ⟨(some 20), (.call (.func 124) [(.tmp 18), (.tmp 19)]), none⟩, ⟨(some 21), (.cmp .gtr (.tmp 20) (.const (.int .i64 0))), none⟩]) (.cond (.tmp 21) (.ops [⟨(some 22), (.loadN 2 (.tmp 5)), none⟩, ⟨none, (.store 2 (.tmp 3) (.tmp 22)), none⟩]) .skip))))) (.ops [⟨(some 9), (.mov (.tmp 4)), none⟩, ⟨(some 10), (.arith .add (.tmp 9) (.const (.int .i64 1))), none⟩, ⟨(some 4), (.mov (.tmp 10)), none⟩])))))) (.seq (.ops [⟨(some 23), (.loadN 2 (.tmp 3)), none⟩, ⟨none, (.store 2 (.tmp 2) (.tmp 23)), none⟩]) .ret)))), 24, [(.loadN 2 2)]⟩
theorem c69 : compileFn Go.Proofs.Tryd.prog Go.Proofs.Tryd.f69 = some R69 := by kernel_rfl
theorem n69 : R69.ntmps = 24 := rfl
theorem a69 {args : List Value} {H : AHeap} {Q : Value → AHeap → Prop} (h : AWP Go.Proofs.Tryd.prog none R69.code (Fin R69 Q) (args ++ List.replicate (R69.ntmps - args.length) undef) H) : ACall Go.Proofs.Tryd.prog 69 args H Q := acall_intro mo Go.Proofs.Tryd.func69 c69 h

def R70 : RFunc :=
  ⟨(.seq (.ops [⟨(some 4), (.new [(.int .i64 0), (.int .i64 0)]), none⟩]) (.seq (.seq (.ops [⟨(some 5), (.mov (.tmp 0)), none⟩, ⟨(some 6), (.cmp .eql (.tmp 5) (.const (.int .i64 1))), none⟩]) (.cond (.tmp 6) (.seq (.ops [⟨(some 7), (.mov (.tmp 1)), none⟩, ⟨(some 8), (.mov (.tmp 1)), none⟩, ⟨(some 9), (.arith .sub (.tmp 8) (.const (.int .i64 64))), none⟩, ⟨(some 10), (.arith .mul (.tmp 7) (.tmp 9)), none⟩, ⟨(some 11), (.call (.func 125) [(.tmp 10), (.const (.int .i64 8192))]), none⟩, ⟨none, (.store 2 (.tmp 4) (.tmp 11)), none⟩]) .ret) .skip)) (.seq (.ops [⟨(some 12), (.mov (.tmp 1)), none⟩, ⟨(some 13), (.arith .add (.tmp 12) (.const (.int .i64 64))), none⟩, ⟨(some 14), (.mov (.tmp 1)), none⟩, ⟨(some 15), (.arith .mul (.tmp 13) (.tmp 14)), none⟩, ⟨(some 16), (.mov (.tmp 1)), none⟩, ⟨(some 17), (.arith .sub (.tmp 16) (.const (.int .i64 64))), none⟩, ⟨(some 18), (.arith .mul (.tmp 15) (.tmp 17)), none⟩, ⟨(some 19), (.mov (.tmp 1)), none⟩, ⟨(some 20), (.arith .sub (.tmp 19) (.const (.int .i64 128))), none⟩, ⟨(some 21), (.arith .mul (.tmp 18) (.tmp 20)), none⟩, ⟨(some 22), (.call (.func 125) [(.tmp 21), (.const (.int .i64 402653184))]), none⟩, ⟨none, (.store 2 (.tmp 4) (.tmp 22)), none⟩]) .ret))), 23, [(.loadN 2 4)]⟩
theorem c70 : compileFn Go.Proofs.Tryd.prog Go.Proofs.Tryd.f70 = some R70 := by kernel_rfl
theorem n70 : R70.ntmps = 23 := rfl
theorem a70 {args : List Value} {H : AHeap} {Q : Value → AHeap → Prop} (h : AWP Go.Proofs.Tryd.prog none R70.code (Fin R70 Q) (args ++ List.replicate (R70.ntmps - args.length) undef) H) : ACall Go.Proofs.Tryd.prog 70 args H Q := acall_intro mo Go.Proofs.Tryd.func70 c70 h

def R71 : RFunc :=
  ⟨(.seq (.ops [⟨(some 2), (.box (.tmp 0)), none⟩, ⟨(some 4), (.mov (.const (.slice none 0 0))), none⟩, ⟨(some 5), (.mov (.const (.int .i64 0))), none⟩]) (.seq (.ops [⟨(some 12), (.mov (.tmp 1)), none⟩, ⟨(some 13), (.call (.func 113) [(.tmp 12), (.func 126)]), none⟩, ⟨(some 6), (.mov (.tmp 13)), none⟩]) (.seq (.seq (.ops [⟨(some 14), (.loadN 3 (.tmp 2)), none⟩, ⟨(some 15), (.call (.func 72) [(.tmp 14)]), none⟩, ⟨(some 16), (.mov (.tmp 1)), none⟩, ⟨(some 17), (.len (.tmp 16)), none⟩, ⟨(some 18), (.cmp .leq (.tmp 17) (.const (.int .i64 400))), none⟩, ⟨(some 19), (.call (.func 93) [(.tmp 18), (.const (.int .i64 8))]), none⟩, ⟨(some 20), (.mov (.tmp 6)), none⟩, ⟨(some 21), (.not (.tmp 20)), none⟩, ⟨(some 22), (.call (.func 93) [(.tmp 21), (.const (.int .i64 2))]), none⟩, ⟨(some 23), (.buildSlice 1 3 [(.int .i64 0), (.int .i64 0), (.int .i64 0)] [(0, (1, (.tmp 15))), (1, (1, (.tmp 19))), (2, (1, (.tmp 22)))]), none⟩, ⟨(some 24), (.call (.func 88) [(.tmp 23)]), none⟩, ⟨(some 7), (.mov (.tmp 24)), none⟩]) (.seq (.ops [⟨(some 25), (.mov (.tmp 7)), none⟩, ⟨(some 26), (.cmp .neq (.tmp 25) (.const (.int .i64 0))), none⟩]) (.cond (.tmp 26) (.seq (.ops [⟨(some 27), (.mov (.tmp 7)), none⟩, ⟨(some 4), (.mov (.const (.slice none 0 0))), none⟩, ⟨(some 5), (.mov (.tmp 27)), none⟩]) .ret) .skip))) (.seq (.ops [⟨(some 28), (.loadN 3 (.tmp 2)), none⟩, ⟨(some 29), (.build [(.int .i64 0), (.int .i64 0), (.int .i64 0), (.int .i64 0), (.int .i64 0)] [(0, (3, (.tmp 28)))]), none⟩, ⟨(some 30), (.box (.tmp 29)), none⟩, ⟨(some 8), (.mov (.tmp 30)), none⟩]) (.seq (.ops [⟨(some 9), (.mov (.const (.slice none 0 0))), none⟩]) (.seq (.seq (.ops [⟨(some 31), (.mov (.tmp 1)), none⟩, ⟨(some 32), (.len (.tmp 31)), none⟩, ⟨(some 33), (.mov (.const (.int .i64 0))), none⟩]) (.block 0 (.loop (.seq (.ops [⟨(some 34), (.cmp .lss (.tmp 33) (.tmp 32)), none⟩]) (.seq (.cond (.tmp 34) .skip (.exit 0)) (.seq (.block 1 (.seq (.ops [⟨(some 35), (.idxAddr 1 (.tmp 31) (.tmp 33)), none⟩, ⟨(some 36), (.load (.tmp 35)), none⟩, ⟨(some 11), (.mov (.tmp 36)), none⟩]) (.seq (.ops [⟨(some 37), (.mov (.tmp 9)), none⟩, ⟨(some 38), (.mov (.tmp 11)), none⟩, ⟨(some 39), (.mov (.tmp 8)), none⟩, ⟨(some 40), (.call (.func 117) [(.tmp 39)]), none⟩, ⟨(some 41), (.arith .sub (.tmp 38) (.tmp 40)), none⟩, ⟨(some 42), (.buildSlice 1 1 [(.int .i64 0)] [(0, (1, (.tmp 41)))]), none⟩, ⟨(some 43), (.append 1 8 (.tmp 37) (.tmp 42)), none⟩, ⟨(some 9), (.mov (.tmp 43)), none⟩]) (.ops [⟨(some 44), (.mov (.tmp 8)), none⟩, ⟨(some 45), (.mov (.tmp 11)), none⟩, ⟨(some 46), (.call (.func 119) [(.tmp 44), (.tmp 45)]), none⟩])))) (.ops [⟨(some 47), (.arith .add (.tmp 33) (.const (.int .i64 1))), none⟩, ⟨(some 33), (.mov (.tmp 47)), none⟩]))))))) (.seq (.ops [⟨(some 48), (.mov (.tmp 9)), none⟩, ⟨(some 4), (.mov (.tmp 48)), none⟩, ⟨(some 5), (.mov (.const (.int .i64 0))), none⟩]) .ret))))))), 49, [(.tmp 4), (.tmp 5)]⟩
theorem c71 : compileFn Go.Proofs.Tryd.prog Go.Proofs.Tryd.f71 = some R71 := by kernel_rfl
theorem n71 : R71.ntmps = 49 := rfl
theorem a71 {args : List Value} {H : AHeap} {Q : Value → AHeap → Prop} (h : AWP Go.Proofs.Tryd.prog none R71.code (Fin R71 Q) (args ++ List.replicate (R71.ntmps - args.length) undef) H) : ACall Go.Proofs.Tryd.prog 71 args H Q := acall_intro mo Go.Proofs.Tryd.func71 c71 h

def R72 : RFunc :=
  ⟨(.seq (.ops [⟨(some 1), (.box (.tmp 0)), none⟩, ⟨(some 2), (.mov (.const (.int .i64 0))), none⟩]) (.seq (.ops [⟨(some 3), (.fieldAddr 0 (.tmp 1)), none⟩, ⟨(some 4), (.load (.tmp 3)), none⟩, ⟨(some 5), (.call (.func 115) [(.tmp 4)]), none⟩, ⟨(some 6), (.mov (.tmp 5)), none⟩, ⟨(some 7), (.fieldAddr 1 (.tmp 1)), (some (6, true))⟩, ⟨(some 8), (.load (.tmp 7)), (some (6, true))⟩, ⟨(some 9), (.call (.func 115) [(.tmp 8)]), (some (6, true))⟩, ⟨(some 10), (.pick (.tmp 6) (.tmp 9) (.const (.bool false))), none⟩, ⟨(some 11), (.mov (.tmp 10)), none⟩, ⟨(some 12), (.fieldAddr 2 (.tmp 1)), (some (11, true))⟩, ⟨(some 13), (.load (.tmp 12)), (some (11, true))⟩, ⟨(some 14), (.call (.func 116) [(.tmp 13)]), (some (11, true))⟩, ⟨(some 15), (.pick (.tmp 11) (.tmp 14) (.const (.bool false))), none⟩, ⟨(some 16), (.call (.func 93) [(.tmp 15), (.const (.int .i64 2))]), none⟩, ⟨(some 2), (.mov (.tmp 16)), none⟩]) .ret)), 17, [(.tmp 2)]⟩
theorem c72 : compileFn Go.Proofs.Tryd.prog Go.Proofs.Tryd.f72 = some R72 := by kernel_rfl
theorem n72 : R72.ntmps = 17 := rfl
theorem a72 {args : List Value} {H : AHeap} {Q : Value → AHeap → Prop} (h : AWP Go.Proofs.Tryd.prog none R72.code (Fin R72 Q) (args ++ List.replicate (R72.ntmps - args.length) undef) H) : ACall Go.Proofs.Tryd.prog 72 args H Q := acall_intro mo Go.Proofs.Tryd.func72 c72 h

def R73 : RFunc :=
  ⟨(.seq (.ops [⟨(some 2), (.mov (.const (.int .i64 0))), none⟩]) (.seq (.seq (.ops [⟨(some 4), (.mov (.tmp 0)), none⟩, ⟨(some 5), (.len (.tmp 4)), none⟩, ⟨(some 6), (.cmp .gtr (.tmp 5) (.const (.int .i64 400))), none⟩]) (.cond (.tmp 6) (.seq (.ops [⟨(some 2), (.mov (.const (.int .i64 8))), none⟩]) .ret) .skip)) (.seq (.seq (.ops [⟨(some 3), (.mov (.const (.int .i64 0))), none⟩]) (.block 0 (.loop (.seq (.seq (.ops [⟨(some 7), (.mov (.tmp 3)), none⟩, ⟨(some 8), (.mov (.tmp 0)), none⟩, ⟨(some 9), (.len (.tmp 8)), none⟩, ⟨(some 10), (.cmp .lss (.tmp 7) (.tmp 9)), none⟩]) (.cond (.tmp 10) .skip (.exit 0))) (.seq (.block 1 (.seq (.ops [⟨(some 13), (.mov (.tmp 0)), none⟩, ⟨(some 14), (.mov (.tmp 3)), none⟩, ⟨(some 15), (.idxAddr 1 (.tmp 13) (.tmp 14)), none⟩, ⟨(some 16), (.load (.tmp 15)), none⟩, ⟨(some 17), (.call (.func 127) [(.tmp 16)]), none⟩, ⟨(some 18), (.not (.tmp 17)), none⟩]) (.cond (.tmp 18) (.seq (.ops [⟨(some 2), (.mov (.const (.int .i64 2))), none⟩]) .ret) .skip))) (.ops [⟨(some 11), (.mov (.tmp 3)), none⟩, ⟨(some 12), (.arith .add (.tmp 11) (.const (.int .i64 1))), none⟩, ⟨(some 3), (.mov (.tmp 12)), none⟩])))))) (.seq (.ops [⟨(some 2), (.mov (.const (.int .i64 0))), none⟩]) .ret)))), 19, [(.tmp 2)]⟩
theorem c73 : compileFn Go.Proofs.Tryd.prog Go.Proofs.Tryd.f73 = some R73 := by kernel_rfl
theorem n73 : R73.ntmps = 19 := rfl
theorem a73 {args : List Value} {H : AHeap} {Q : Value → AHeap → Prop} (h : AWP Go.Proofs.Tryd.prog none R73.code (Fin R73 Q) (args ++ List.replicate (R73.ntmps - args.length) undef) H) : ACall Go.Proofs.Tryd.prog 73 args H Q := acall_intro mo Go.Proofs.Tryd.func73 c73 h

def R74 : RFunc :=
  ⟨(.seq (.ops [⟨(some 2), (.box (.tmp 0)), none⟩, ⟨(some 4), (.mov (.const (.slice none 0 0))), none⟩]) (.seq (.ops [⟨(some 5), (.mov (.const (.slice none 0 0))), none⟩]) (.seq (.seq (.ops [⟨(some 6), (.mov (.const (.int .i64 0))), none⟩]) (.block 0 (.loop (.seq (.seq (.ops [⟨(some 7), (.mov (.tmp 6)), none⟩, ⟨(some 8), (.mov (.tmp 1)), none⟩, ⟨(some 9), (.len (.tmp 8)), none⟩, ⟨(some 10), (.cmp .lss (.tmp 7) (.tmp 9)), none⟩]) (.cond (.tmp 10) .skip (.exit 0))) (.seq (.block 1 (.draw [(⟨(some 13), (.mov (.tmp 5)), none⟩, false), (⟨(some 14), (.mov (.tmp 1)), none⟩, false), (⟨(some 15), (.mov (.tmp 6)), none⟩, false), (⟨(some 16), (.idxAddr 1 (.tmp 14) (.tmp 15)), none⟩, false), (⟨(some 17), (.load (.tmp 16)), none⟩, false), (⟨(some 18), (.loadN 3 (.tmp 2)), none⟩, false), (⟨(some 19), (.mov (.tmp 1)), none⟩, false), (⟨(some 20), (.mov (.tmp 6)), none⟩, false), (⟨(some 21), (.call (.func 128) [(.tmp 18), (.tmp 19), (.tmp 20)]), none⟩, false), (⟨(some 22), (.arith .sub (.tmp 17) (.tmp 21)), none⟩, false), (⟨(some 23), (.buildSlice 1 1 [(.int .i64 0)] [(0, (1, (.tmp 22)))]), none⟩, false), (⟨(some 24), (.append 1 8 (.tmp 13) (.tmp 23)), none⟩, false), (⟨(some 5), (.mov (.tmp 24)), none⟩, false)])) (.ops [⟨(some 11), (.mov (.tmp 6)), none⟩, ⟨(some 12), (.arith .add (.tmp 11) (.const (.int .i64 1))), none⟩, ⟨(some 6), (.mov (.tmp 12)), none⟩])))))) (.seq (.ops [⟨(some 25), (.mov (.tmp 5)), none⟩, ⟨(some 4), (.mov (.tmp 25)), none⟩]) .ret)))), 26, [(.tmp 4)]⟩
theorem c74 : compileFn Go.Proofs.Tryd.prog Go.Proofs.Tryd.f74 = some R74 := by kernel_rfl
theorem n74 : R74.ntmps = 26 := rfl
theorem a74 {args : List Value} {H : AHeap} {Q : Value → AHeap → Prop} (h : AWP Go.Proofs.Tryd.prog none R74.code (Fin R74 Q) (args ++ List.replicate (R74.ntmps - args.length) undef) H) : ACall Go.Proofs.Tryd.prog 74 args H Q := acall_intro mo Go.Proofs.Tryd.func74 c74 h

def R75 : RFunc :=
  ⟨(.seq (.ops [⟨(some 2), (.box (.tmp 0)), none⟩, ⟨(some 4), (.mov (.const (.slice none 0 0))), none⟩, ⟨(some 5), (.mov (.const (.bool false))), none⟩]) (.seq (.ops [⟨(some 6), (.mov (.const (.slice none 0 0))), none⟩]) (.seq (.seq (.ops [⟨(some 7), (.mov (.const (.int .i64 0))), none⟩]) (.block 0 (.loop (.seq (.seq (.ops [⟨(some 8), (.mov (.tmp 7)), none⟩, ⟨(some 9), (.mov (.tmp 1)), none⟩, ⟨(some 10), (.len (.tmp 9)), none⟩, ⟨(some 11), (.cmp .lss (.tmp 8) (.tmp 10)), none⟩]) (.cond (.tmp 11) .skip (.exit 0))) (.seq (.block 1 (.seq (.draw [(⟨(some 14), (.mov (.tmp 6)), none⟩, false), (⟨(some 15), (.mov (.tmp 1)), none⟩, false), (⟨(some 16), (.mov (.tmp 7)), none⟩, false), (⟨(some 17), (.idxAddr 1 (.tmp 15) (.tmp 16)), none⟩, false), (⟨(some 18), (.load (.tmp 17)), none⟩, false), (⟨(some 19), (.loadN 3 (.tmp 2)), none⟩, false), (⟨(some 20), (.mov (.tmp 6)), none⟩, false), (⟨(some 21), (.mov (.tmp 7)), none⟩, false), (⟨(some 22), (.call (.func 128) [(.tmp 19), (.tmp 20), (.tmp 21)]), none⟩, false), (⟨(some 23), (.arith .add (.tmp 18) (.tmp 22)), none⟩, false), (⟨(some 24), (.buildSlice 1 1 [(.int .i64 0)] [(0, (1, (.tmp 23)))]), none⟩, false), (⟨(some 25), (.append 1 8 (.tmp 14) (.tmp 24)), none⟩, false), (⟨(some 6), (.mov (.tmp 25)), none⟩, false)]) (.seq (.ops [⟨(some 26), (.mov (.tmp 6)), none⟩, ⟨(some 27), (.mov (.tmp 7)), none⟩, ⟨(some 28), (.idxAddr 1 (.tmp 26) (.tmp 27)), none⟩, ⟨(some 29), (.load (.tmp 28)), none⟩, ⟨(some 30), (.call (.func 127) [(.tmp 29)]), none⟩, ⟨(some 31), (.not (.tmp 30)), none⟩]) (.cond (.tmp 31) (.seq (.ops [⟨(some 4), (.mov (.const (.slice none 0 0))), none⟩, ⟨(some 5), (.mov (.const (.bool false))), none⟩]) .ret) .skip)))) (.ops [⟨(some 12), (.mov (.tmp 7)), none⟩, ⟨(some 13), (.arith .add (.tmp 12) (.const (.int .i64 1))), none⟩, ⟨(some 7), (.mov (.tmp 13)), none⟩])))))) (.seq (.ops [⟨(some 32), (.mov (.tmp 6)), none⟩, ⟨(some 4), (.mov (.tmp 32)), none⟩, ⟨(some 5), (.mov (.const (.bool true))), none⟩]) .ret)))), 33, [(.tmp 4), (.tmp 5)]⟩
theorem c75 : compileFn Go.Proofs.Tryd.prog Go.Proofs.Tryd.f75 = some R75 := by kernel_rfl
theorem n75 : R75.ntmps = 33 := rfl
theorem a75 {args : List Value} {H : AHeap} {Q : Value → AHeap → Prop} (h : AWP Go.Proofs.Tryd.prog none R75.code (Fin R75 Q) (args ++ List.replicate (R75.ntmps - args.length) undef) H) : ACall Go.Proofs.Tryd.prog 75 args H Q := acall_intro mo Go.Proofs.Tryd.func75 c75 h

def R76 : RFunc :=
  ⟨(.seq (.ops [⟨(some 4), (.mov (.const (.int .i64 0))), none⟩]) (.seq (.ops [⟨(some 5), (.mov (.tmp 0)), none⟩, ⟨(some 6), (.mov (.tmp 1)), none⟩, ⟨(some 7), (.arith .rem (.tmp 5) (.tmp 6)), none⟩, ⟨(some 0), (.mov (.tmp 7)), none⟩]) (.seq (.seq (.ops [⟨(some 8), (.mov (.tmp 0)), none⟩, ⟨(some 9), (.cmp .lss (.tmp 8) (.const (.int .i64 0))), none⟩]) (.cond (.tmp 9) (.ops [⟨(some 10), (.mov (.tmp 0)), none⟩, ⟨(some 11), (.mov (.tmp 1)), none⟩, ⟨(some 12), (.arith .add (.tmp 10) (.tmp 11)), none⟩, ⟨(some 0), (.mov (.tmp 12)), none⟩]) .skip)) (.seq (.ops [⟨(some 13), (.mov (.tmp 0)), none⟩, ⟨(some 4), (.mov (.tmp 13)), none⟩]) .ret)))), 14, [(.tmp 4)]⟩
theorem c76 : compileFn Go.Proofs.Tryd.prog Go.Proofs.Tryd.f76 = some R76 := by kernel_rfl
theorem n76 : R76.ntmps = 14 := rfl
theorem a76 {args : List Value} {H : AHeap} {Q : Value → AHeap → Prop} (h : AWP Go.Proofs.Tryd.prog none R76.code (Fin R76 Q) (args ++ List.replicate (R76.ntmps - args.length) undef) H) : ACall Go.Proofs.Tryd.prog 76 args H Q := acall_intro mo Go.Proofs.Tryd.func76 c76 h

def R77 : RFunc :=
  ⟨(.seq (.ops [⟨(some 2), (.box (.tmp 0)), none⟩, ⟨(some 4), (.new [(.int .i64 0), (.int .i64 0)]), none⟩, ⟨(some 5), (.mov (.const (.int .i64 0))), none⟩]) (.seq (.seq (.ops [⟨(some 10), (.loadN 2 (.tmp 2)), none⟩, ⟨(some 11), (.call (.func 59) [(.tmp 10)]), none⟩, ⟨(some 12), (.mov (.tmp 1)), none⟩, ⟨(some 13), (.call (.func 100) [(.tmp 12)]), none⟩, ⟨(some 14), (.buildSlice 1 2 [(.int .i64 0), (.int .i64 0)] [(0, (1, (.tmp 11))), (1, (1, (.tmp 13)))]), none⟩, ⟨(some 15), (.call (.func 88) [(.tmp 14)]), none⟩, ⟨(some 6), (.mov (.tmp 15)), none⟩]) (.seq (.ops [⟨(some 16), (.mov (.tmp 6)), none⟩, ⟨(some 17), (.cmp .neq (.tmp 16) (.const (.int .i64 0))), none⟩]) (.cond (.tmp 17) (.seq (.ops [⟨(some 18), (.build [(.int .i64 0), (.int .i64 0)] []), none⟩, ⟨(some 19), (.mov (.tmp 6)), none⟩, ⟨none, (.store 2 (.tmp 4) (.tmp 18)), none⟩, ⟨(some 5), (.mov (.tmp 19)), none⟩]) .ret) .skip))) (.seq (.ops [⟨(some 7), (.mov (.const (.int .i64 0))), none⟩]) (.seq (.seq (.ops [⟨(some 20), (.fieldAddr 0 (.tmp 2)), none⟩, ⟨(some 21), (.load (.tmp 20)), none⟩, ⟨(some 22), (.len (.tmp 21)), none⟩, ⟨(some 23), (.mov (.const (.int .i64 0))), none⟩]) (.block 0 (.loop (.seq (.ops [⟨(some 24), (.cmp .lss (.tmp 23) (.tmp 22)), none⟩]) (.seq (.cond (.tmp 24) .skip (.exit 0)) (.seq (.block 1 (.seq (.ops [⟨(some 25), (.idxAddr 1 (.tmp 21) (.tmp 23)), none⟩, ⟨(some 26), (.load (.tmp 25)), none⟩, ⟨(some 9), (.mov (.tmp 26)), none⟩]) (.ops [⟨(some 27), (.mov (.tmp 7)), none⟩, ⟨(some 28), (.mov (.tmp 9)), none⟩, ⟨(some 29), (.mov (.tmp 9)), none⟩, ⟨(some 30), (.call (.func 129) [(.tmp 29)]), none⟩, ⟨(some 31), (.arith .mul (.tmp 28) (.tmp 30)), none⟩, ⟨(some 32), (.arith .add (.tmp 27) (.tmp 31)), none⟩, ⟨(some 7), (.mov (.tmp 32)), none⟩]))) (.ops [⟨(some 33), (.arith .add (.tmp 23) (.const (.int .i64 1))), none⟩, ⟨(some 23), (.mov (.tmp 33)), none⟩]))))))) (.seq (.ops [⟨(some 34), (.mov (.tmp 7)), none⟩, ⟨(some 35), (.mov (.tmp 1)), none⟩, ⟨(some 36), (.arith .mul (.tmp 34) (.tmp 35)), none⟩, ⟨(some 37), (.fieldAddr 1 (.tmp 2)), none⟩, ⟨(some 38), (.load (.tmp 37)), none⟩, ⟨(some 39), (.call (.func 121) [(.tmp 36), (.tmp 38)]), none⟩, ⟨none, (.store 2 (.tmp 4) (.tmp 39)), none⟩, ⟨(some 5), (.mov (.const (.int .i64 0))), none⟩]) .ret))))), 40, [(.loadN 2 4), (.tmp 5)]⟩
theorem c77 : compileFn Go.Proofs.Tryd.prog Go.Proofs.Tryd.f77 = some R77 := by kernel_rfl
theorem n77 : R77.ntmps = 40 := rfl
theorem a77 {args : List Value} {H : AHeap} {Q : Value → AHeap → Prop} (h : AWP Go.Proofs.Tryd.prog none R77.code (Fin R77 Q) (args ++ List.replicate (R77.ntmps - args.length) undef) H) : ACall Go.Proofs.Tryd.prog 77 args H Q := acall_intro mo Go.Proofs.Tryd.func77 c77 h

def R79 : RFunc :=
  ⟨(.seq (.ops [⟨(some 2), (.box (.tmp 0)), none⟩, ⟨(some 4), (.new [(.int .i64 0), (.int .i64 0)]), none⟩]) (.seq (.ops [⟨(some 5), (.mov (.const (.int .i64 0))), none⟩]) (.seq (.seq (.ops [⟨(some 6), (.mov (.const (.int .i64 0))), none⟩]) (.block 0 (.loop (.seq (.seq (.ops [⟨(some 7), (.mov (.tmp 6)), none⟩, ⟨(some 8), (.fieldAddr 0 (.tmp 2)), none⟩, ⟨(some 9), (.load (.tmp 8)), none⟩, ⟨(some 10), (.len (.tmp 9)), none⟩, ⟨(some 11), (.cmp .lss (.tmp 7) (.tmp 10)), none⟩]) (.cond (.tmp 11) .skip (.exit 0))) (.seq (.block 1 (.ops [⟨(some 14), (.mov (.tmp 5)), none⟩, ⟨(some 15), (.fieldAddr 0 (.tmp 2)), none⟩, ⟨(some 16), (.load (.tmp 15)), none⟩, ⟨(some 17), (.mov (.tmp 6)), none⟩, ⟨(some 18), (.idxAddr 1 (.tmp 16) (.tmp 17)), none⟩, ⟨(some 19), (.load (.tmp 18)), none⟩, ⟨(some 20), (.call (.func 35) [(.tmp 19)]), none⟩, ⟨(some 21), (.arith .add (.tmp 14) (.tmp 20)), none⟩, ⟨(some 5), (.mov (.tmp 21)), none⟩])) (.ops [⟨(some 12), (.mov (.tmp 6)), none⟩, ⟨(some 13), (.arith .add (.tmp 12) (.const (.int .i64 1))), none⟩, ⟨(some 6), (.mov (.tmp 13)), none⟩])))))) (.seq (.ops [⟨(some 22), (.mov (.tmp 5)), none⟩, ⟨(some 23), (.mov (.tmp 1)), none⟩, ⟨(some 24), (.arith .mul (.tmp 22) (.tmp 23)), none⟩, ⟨(some 25), (.fieldAddr 1 (.tmp 2)), none⟩, ⟨(some 26), (.load (.tmp 25)), none⟩, ⟨(some 27), (.call (.func 125) [(.tmp 24), (.tmp 26)]), none⟩, ⟨none, (.store 2 (.tmp 4) (.tmp 27)), none⟩]) .ret)))), 28, [(.loadN 2 4)]⟩
theorem c79 : compileFn Go.Proofs.Tryd.prog Go.Proofs.Tryd.f79 = some R79 := by kernel_rfl
theorem n79 : R79.ntmps = 28 := rfl
theorem a79 {args : List Value} {H : AHeap} {Q : Value → AHeap → Prop} (h : AWP Go.Proofs.Tryd.prog none R79.code (Fin R79 Q) (args ++ List.replicate (R79.ntmps - args.length) undef) H) : ACall Go.Proofs.Tryd.prog 79 args H Q := acall_intro mo Go.Proofs.Tryd.func79 c79 h

def R81 : RFunc :=
  ⟨(.seq (.ops [⟨(some 2), (.box (.tmp 0)), none⟩, ⟨(some 3), (.box (.tmp 1)), none⟩, ⟨(some 4), (.new [(.slice none 0 0), (.int .i64 0)]), none⟩, ⟨(some 5), (.mov (.const (.int .i64 0))), none⟩]) (.seq (.seq (.draw [(⟨(some 12), (.loadN 2 (.tmp 2)), none⟩, false), (⟨(some 13), (.call (.func 59) [(.tmp 12)]), none⟩, false), (⟨(some 14), (.loadN 2 (.tmp 3)), none⟩, false), (⟨(some 15), (.call (.func 59) [(.tmp 14)]), none⟩, false), (⟨(some 16), (.buildSlice 1 2 [(.int .i64 0), (.int .i64 0)] [(0, (1, (.tmp 13))), (1, (1, (.tmp 15)))]), none⟩, false), (⟨(some 17), (.call (.func 88) [(.tmp 16)]), none⟩, false), (⟨(some 6), (.mov (.tmp 17)), none⟩, false)]) (.seq (.ops [⟨(some 18), (.mov (.tmp 6)), none⟩, ⟨(some 19), (.cmp .neq (.tmp 18) (.const (.int .i64 0))), none⟩]) (.cond (.tmp 19) (.seq (.ops [⟨(some 20), (.build [(.slice none 0 0), (.int .i64 0)] []), none⟩, ⟨(some 21), (.mov (.tmp 6)), none⟩, ⟨none, (.store 2 (.tmp 4) (.tmp 20)), none⟩, ⟨(some 5), (.mov (.tmp 21)), none⟩]) .ret) .skip))) (.seq (.drawF [(7, (2, (.tmp 36)))] [(⟨(some 22), (.fieldAddr 0 (.tmp 2)), none⟩, false), (⟨(some 23), (.load (.tmp 22)), none⟩, false), (⟨(some 24), (.len (.tmp 23)), none⟩, false), (⟨(some 25), (.fieldAddr 0 (.tmp 3)), none⟩, false), (⟨(some 26), (.load (.tmp 25)), none⟩, false), (⟨(some 27), (.len (.tmp 26)), none⟩, false), (⟨(some 28), (.arith .add (.tmp 24) (.tmp 27)), none⟩, false), (⟨(some 29), (.arith .sub (.tmp 28) (.const (.int .i64 1))), none⟩, false), (⟨(some 30), (.mkSlice 8 [(.int .i64 0)] (.tmp 29) (.tmp 29)), none⟩, false), (⟨(some 31), (.fieldAddr 1 (.tmp 2)), none⟩, false), (⟨(some 32), (.load (.tmp 31)), none⟩, false), (⟨(some 33), (.fieldAddr 1 (.tmp 3)), none⟩, false), (⟨(some 34), (.load (.tmp 33)), none⟩, false), (⟨(some 35), (.arith .mul (.tmp 32) (.tmp 34)), none⟩, false), (⟨(some 36), (.build [(.slice none 0 0), (.int .i64 0)] [(0, (1, (.tmp 30))), (1, (1, (.tmp 35)))]), none⟩, false), (⟨none, (.mov (.const (.bool false))), none⟩, false), (⟨none, (.mov (.const (.bool false))), none⟩, false)]) (.seq (.seq (.ops [⟨(some 37), (.fieldAddr 0 (.tmp 2)), none⟩, ⟨(some 38), (.load (.tmp 37)), none⟩, ⟨(some 39), (.len (.tmp 38)), none⟩, ⟨(some 40), (.mov (.const (.int .i64 0))), none⟩]) (.block 0 (.loop (.seq (.ops [⟨(some 41), (.cmp .lss (.tmp 40) (.tmp 39)), none⟩]) (.seq (.cond (.tmp 41) .skip (.exit 0)) (.seq (.block 1 (.seq (.ops [⟨(some 42), (.mov (.tmp 40)), none⟩, ⟨(some 43), (.idxAddr 1 (.tmp 38) (.tmp 40)), none⟩, ⟨(some 44), (.load (.tmp 43)), none⟩, ⟨(some 8), (.mov (.tmp 42)), none⟩, ⟨(some 9), (.mov (.tmp 44)), none⟩]) (.seq (.ops [⟨(some 45), (.fieldAddr 0 (.tmp 3)), none⟩, ⟨(some 46), (.load (.tmp 45)), none⟩, ⟨(some 47), (.len (.tmp 46)), none⟩, ⟨(some 48), (.mov (.const (.int .i64 0))), none⟩]) (.block 2 (.loop (.seq (.ops [⟨(some 49), (.cmp .lss (.tmp 48) (.tmp 47)), none⟩]) (.seq (.cond (.tmp 49) .skip (.exit 2)) (.seq (.block 3 (.seq (.ops [⟨(some 50), (.mov (.tmp 48)), none⟩, ⟨(some 51), (.idxAddr 1 (.tmp 46) (.tmp 48)), none⟩, ⟨(some 52), (.load (.tmp 51)), none⟩, ⟨(some 10), (.mov (.tmp 50)), none⟩, ⟨(some 11), (.mov (.tmp 52)), none⟩]) (.ops [⟨(some 53), (.fieldAddr 0 (.tmp 7)), none⟩, ⟨(some 54), (.load (.tmp 53)), none⟩, ⟨(some 55), (.mov (.tmp 8)), none⟩, ⟨(some 56), (.mov (.tmp 10)), none⟩, ⟨(some 57), (.arith .add (.tmp 55) (.tmp 56)), none⟩, ⟨(some 58), (.idxAddr 1 (.tmp 54) (.tmp 57)), none⟩, ⟨(some 59), (.load (.tmp 58)), none⟩, ⟨(some 60), (.mov (.tmp 9)), none⟩, ⟨(some 61), (.mov (.tmp 11)), none⟩, ⟨(some 62), (.arith .mul (.tmp 60) (.tmp 61)), none⟩, ⟨(some 63), (.arith .add (.tmp 59) (.tmp 62)), none⟩, ⟨(some 64), (.idxAddr 1 (.tmp 54) (.tmp 57)), none⟩, ⟨none, (.store 1 (.tmp 64) (.tmp 63)), none⟩]))) (.ops [⟨(some 65), (.arith .add (.tmp 48) (.const (.int .i64 1))), none⟩, ⟨(some 48), (.mov (.tmp 65)), none⟩]))))))))) (.ops [⟨(some 66), (.arith .add (.tmp 40) (.const (.int .i64 1))), none⟩, ⟨(some 40), (.mov (.tmp 66)), none⟩]))))))) (.seq (.seq (.ops [⟨(some 67), (.loadN 2 (.tmp 7)), none⟩, ⟨(some 68), (.call (.func 59) [(.tmp 67)]), none⟩, ⟨(some 69), (.cmp .neq (.tmp 68) (.const (.int .i64 0))), none⟩]) (.cond (.tmp 69) (.seq (.ops [⟨(some 70), (.build [(.slice none 0 0), (.int .i64 0)] []), none⟩, ⟨none, (.store 2 (.tmp 4) (.tmp 70)), none⟩, ⟨(some 5), (.mov (.const (.int .i64 8))), none⟩]) .ret) .skip)) (.seq (.ops [⟨(some 71), (.loadN 2 (.tmp 7)), none⟩, ⟨none, (.store 2 (.tmp 4) (.tmp 71)), none⟩, ⟨(some 5), (.mov (.const (.int .i64 0))), none⟩]) .ret)))))), 72, [(.loadN 2 4), (.tmp 5)]⟩
theorem c81 : compileFn Go.Proofs.Tryd.prog Go.Proofs.Tryd.f81 = some R81 := by kernel_rfl
theorem n81 : R81.ntmps = 72 := rfl
theorem a81 {args : List Value} {H : AHeap} {Q : Value → AHeap → Prop} (h : AWP Go.Proofs.Tryd.prog none R81.code (Fin R81 Q) (args ++ List.replicate (R81.ntmps - args.length) undef) H) : ACall Go.Proofs.Tryd.prog 81 args H Q := acall_intro mo Go.Proofs.Tryd.func81 c81 h

def R82 : RFunc :=
  ⟨(.seq (.ops [⟨(some 2), (.box (.tmp 0)), none⟩, ⟨(some 3), (.box (.tmp 1)), none⟩, ⟨(some 4), (.new [(.slice none 0 0), (.int .i64 0)]), none⟩, ⟨(some 5), (.mov (.const (.int .i64 0))), none⟩]) (.seq (.ops [⟨(some 10), (.fieldAddr 1 (.tmp 2)), none⟩, ⟨(some 11), (.load (.tmp 10)), none⟩, ⟨(some 12), (.fieldAddr 1 (.tmp 3)), none⟩, ⟨(some 13), (.load (.tmp 12)), none⟩, ⟨(some 14), (.arith .mul (.tmp 11) (.tmp 13)), none⟩, ⟨(some 15), (.build [(.slice none 0 0), (.int .i64 0)] [(1, (1, (.tmp 14)))]), none⟩, ⟨(some 6), (.new [(.slice none 0 0), (.int .i64 0)]), none⟩, ⟨none, (.store 2 (.tmp 6) (.tmp 15)), none⟩]) (.seq (.seq (.ops [⟨(some 7), (.mov (.const (.int .i64 0))), none⟩]) (.block 0 (.loop (.seq (.seq (.ops [⟨(some 16), (.mov (.tmp 7)), none⟩, ⟨(some 17), (.fieldAddr 0 (.tmp 2)), none⟩, ⟨(some 18), (.load (.tmp 17)), none⟩, ⟨(some 19), (.len (.tmp 18)), none⟩, ⟨(some 20), (.fieldAddr 0 (.tmp 3)), none⟩, ⟨(some 21), (.load (.tmp 20)), none⟩, ⟨(some 22), (.len (.tmp 21)), none⟩, ⟨(some 23), (.arith .add (.tmp 19) (.tmp 22)), none⟩, ⟨(some 24), (.arith .sub (.tmp 23) (.const (.int .i64 1))), none⟩, ⟨(some 25), (.cmp .lss (.tmp 16) (.tmp 24)), none⟩]) (.cond (.tmp 25) .skip (.exit 0))) (.seq (.block 1 (.seq (.ops [⟨(some 8), (.mov (.const (.int .i64 0))), none⟩]) (.seq (.seq (.ops [⟨(some 9), (.mov (.const (.int .i64 0))), none⟩]) (.block 2 (.loop (.seq (.seq (.ops [⟨(some 28), (.mov (.tmp 9)), none⟩, ⟨(some 29), (.mov (.tmp 7)), none⟩, ⟨(some 30), (.cmp .leq (.tmp 28) (.tmp 29)), none⟩]) (.cond (.tmp 30) .skip (.exit 2))) (.seq (.block 3 (.seq (.ops [⟨(some 33), (.mov (.tmp 9)), none⟩, ⟨(some 34), (.fieldAddr 0 (.tmp 2)), none⟩, ⟨(some 35), (.load (.tmp 34)), none⟩, ⟨(some 36), (.len (.tmp 35)), none⟩, ⟨(some 37), (.cmp .lss (.tmp 33) (.tmp 36)), none⟩, ⟨(some 38), (.mov (.tmp 37)), none⟩, ⟨(some 39), (.mov (.tmp 7)), (some (38, true))⟩, ⟨(some 40), (.mov (.tmp 9)), (some (38, true))⟩, ⟨(some 41), (.arith .sub (.tmp 39) (.tmp 40)), (some (38, true))⟩, ⟨(some 42), (.fieldAddr 0 (.tmp 3)), (some (38, true))⟩, ⟨(some 43), (.load (.tmp 42)), (some (38, true))⟩, ⟨(some 44), (.len (.tmp 43)), (some (38, true))⟩, ⟨(some 45), (.cmp .lss (.tmp 41) (.tmp 44)), (some (38, true))⟩, ⟨(some 46), (.pick (.tmp 38) (.tmp 45) (.const (.bool false))), none⟩]) (.cond (.tmp 46) (.draw [(⟨(some 47), (.mov (.tmp 8)), none⟩, false), (⟨(some 48), (.fieldAddr 0 (.tmp 2)), none⟩, false), (⟨(some 49), (.load (.tmp 48)), none⟩, false), (⟨(some 50), (.mov (.tmp 9)), none⟩, false), (⟨(some 51), (.idxAddr 1 (.tmp 49) (.tmp 50)), none⟩, false), (⟨(some 52), (.load (.tmp 51)), none⟩, false), (⟨(some 53), (.fieldAddr 0 (.tmp 3)), none⟩, false), (⟨(some 54), (.load (.tmp 53)), none⟩, false), (⟨(some 55), (.mov (.tmp 7)), none⟩, false), (⟨(some 56), (.mov (.tmp 9)), none⟩, false), (⟨(some 57), (.arith .sub (.tmp 55) (.tmp 56)), none⟩, false), (⟨(some 58), (.idxAddr 1 (.tmp 54) (.tmp 57)), none⟩, false), (⟨(some 59), (.load (.tmp 58)), none⟩, false), (⟨(some 60), (.arith .mul (.tmp 52) (.tmp 59)), none⟩, false), (⟨(some 61), (.arith .add (.tmp 47) (.tmp 60)), none⟩, false), (⟨(some 8), (.mov (.tmp 61)), none⟩, false)]) .skip))) (.ops [⟨(some 31), (.mov (.tmp 9)), none⟩, ⟨(some 32), (.arith .add (.tmp 31) (.const (.int .i64 1))), none⟩, ⟨(some 9), (.mov (.tmp 32)), none⟩])))))) (.ops [⟨(some 62), (.fieldAddr 0 (.tmp 6)), none⟩, ⟨(some 63), (.load (.tmp 62)), none⟩, ⟨(some 64), (.mov (.tmp 8)), none⟩, ⟨(some 65), (.buildSlice 1 1 [(.int .i64 0)] [(0, (1, (.tmp 64)))]), none⟩, ⟨(some 66), (.append 1 8 (.tmp 63) (.tmp 65)), none⟩, ⟨(some 67), (.fieldAddr 0 (.tmp 6)), none⟩, ⟨none, (.store 1 (.tmp 67) (.tmp 66)), none⟩])))) (.ops [⟨(some 26), (.mov (.tmp 7)), none⟩, ⟨(some 27), (.arith .add (.tmp 26) (.const (.int .i64 1))), none⟩, ⟨(some 7), (.mov (.tmp 27)), none⟩])))))) (.seq (.seq (.ops [⟨(some 68), (.loadN 2 (.tmp 6)), none⟩, ⟨(some 69), (.call (.func 58) [(.tmp 68)]), none⟩, ⟨(some 70), (.cmp .neq (.tmp 69) (.const (.int .i64 0))), none⟩]) (.cond (.tmp 70) (.seq (.ops [⟨(some 71), (.build [(.slice none 0 0), (.int .i64 0)] []), none⟩, ⟨none, (.store 2 (.tmp 4) (.tmp 71)), none⟩, ⟨(some 5), (.mov (.const (.int .i64 8))), none⟩]) .ret) .skip)) (.seq (.ops [⟨(some 72), (.loadN 2 (.tmp 6)), none⟩, ⟨none, (.store 2 (.tmp 4) (.tmp 72)), none⟩, ⟨(some 5), (.mov (.const (.int .i64 0))), none⟩]) .ret))))), 73, [(.loadN 2 4), (.tmp 5)]⟩
theorem c82 : compileFn Go.Proofs.Tryd.prog Go.Proofs.Tryd.f82 = some R82 := by kernel_rfl
theorem n82 : R82.ntmps = 73 := rfl
theorem a82 {args : List Value} {H : AHeap} {Q : Value → AHeap → Prop} (h : AWP Go.Proofs.Tryd.prog none R82.code (Fin R82 Q) (args ++ List.replicate (R82.ntmps - args.length) undef) H) : ACall Go.Proofs.Tryd.prog 82 args H Q := acall_intro mo Go.Proofs.Tryd.func82 c82 h

def R84 : RFunc :=
  ⟨(.seq (.ops [⟨(some 4), (.mov (.const (.int .i64 0))), none⟩]) (.seq (.ops [⟨(some 5), (.mov (.tmp 0)), none⟩, ⟨(some 6), (.neg (.tmp 5)), none⟩, ⟨(some 7), (.mov (.tmp 1)), none⟩, ⟨(some 8), (.call (.func 54) [(.tmp 6), (.tmp 7)]), none⟩, ⟨(some 9), (.neg (.tmp 8)), none⟩, ⟨(some 4), (.mov (.tmp 9)), none⟩]) .ret)), 10, [(.tmp 4)]⟩
theorem c84 : compileFn Go.Proofs.Tryd.prog Go.Proofs.Tryd.f84 = some R84 := by kernel_rfl
theorem n84 : R84.ntmps = 10 := rfl
theorem a84 {args : List Value} {H : AHeap} {Q : Value → AHeap → Prop} (h : AWP Go.Proofs.Tryd.prog none R84.code (Fin R84 Q) (args ++ List.replicate (R84.ntmps - args.length) undef) H) : ACall Go.Proofs.Tryd.prog 84 args H Q := acall_intro mo Go.Proofs.Tryd.func84 c84 h

def R85 : RFunc :=
  ⟨(.seq (.ops [⟨(some 3), (.box (.tmp 0)), none⟩, ⟨(some 6), (.mov (.const (.int .i64 0))), none⟩]) (.seq (.ops [⟨(some 7), (.mov (.const (.int .i64 0))), none⟩]) (.seq (.seq (.ops [⟨(some 8), (.mov (.const (.int .i64 0))), none⟩]) (.block 0 (.loop (.seq (.seq (.ops [⟨(some 9), (.mov (.tmp 8)), none⟩, ⟨(some 10), (.fieldAddr 0 (.tmp 3)), none⟩, ⟨(some 11), (.load (.tmp 10)), none⟩, ⟨(some 12), (.len (.tmp 11)), none⟩, ⟨(some 13), (.cmp .lss (.tmp 9) (.tmp 12)), none⟩, ⟨(some 14), (.mov (.tmp 13)), none⟩, ⟨(some 15), (.mov (.tmp 8)), (some (14, true))⟩, ⟨(some 16), (.mov (.tmp 2)), (some (14, true))⟩, ⟨(some 17), (.cmp .leq (.tmp 15) (.tmp 16)), (some (14, true))⟩, ⟨(some 18), (.pick (.tmp 14) (.tmp 17) (.const (.bool false))), none⟩]) (.cond (.tmp 18) .skip (.exit 0))) (.seq (.block 1 (.draw [(⟨(some 21), (.mov (.tmp 7)), none⟩, false), (⟨(some 22), (.fieldAddr 0 (.tmp 3)), none⟩, false), (⟨(some 23), (.load (.tmp 22)), none⟩, false), (⟨(some 24), (.mov (.tmp 8)), none⟩, false), (⟨(some 25), (.idxAddr 1 (.tmp 23) (.tmp 24)), none⟩, false), (⟨(some 26), (.load (.tmp 25)), none⟩, false), (⟨(some 27), (.mov (.tmp 1)), none⟩, false), (⟨(some 28), (.mov (.tmp 2)), none⟩, false), (⟨(some 29), (.mov (.tmp 8)), none⟩, false), (⟨(some 30), (.arith .sub (.tmp 28) (.tmp 29)), none⟩, false), (⟨(some 31), (.idxAddr 1 (.tmp 27) (.tmp 30)), none⟩, false), (⟨(some 32), (.load (.tmp 31)), none⟩, false), (⟨(some 33), (.arith .mul (.tmp 26) (.tmp 32)), none⟩, false), (⟨(some 34), (.arith .add (.tmp 21) (.tmp 33)), none⟩, false), (⟨(some 7), (.mov (.tmp 34)), none⟩, false)])) (.ops [⟨(some 19), (.mov (.tmp 8)), none⟩, ⟨(some 20), (.arith .add (.tmp 19) (.const (.int .i64 1))), none⟩, ⟨(some 8), (.mov (.tmp 20)), none⟩])))))) (.seq (.ops [⟨(some 35), (.mov (.tmp 7)), none⟩, ⟨(some 6), (.mov (.tmp 35)), none⟩]) .ret)))), 36, [(.tmp 6)]⟩
theorem c85 : compileFn Go.Proofs.Tryd.prog Go.Proofs.Tryd.f85 = some R85 := by kernel_rfl
theorem n85 : R85.ntmps = 36 := rfl
theorem a85 {args : List Value} {H : AHeap} {Q : Value → AHeap → Prop} (h : AWP Go.Proofs.Tryd.prog none R85.code (Fin R85 Q) (args ++ List.replicate (R85.ntmps - args.length) undef) H) : ACall Go.Proofs.Tryd.prog 85 args H Q := acall_intro mo Go.Proofs.Tryd.func85 c85 h

def R86 : RFunc :=
  ⟨(.seq (.ops [⟨(some 0), (.mov (.const (.slice none 0 0))), none⟩]) (.seq (.ops [⟨(some 1), (.buildSlice 1 4 [(.int .i64 0), (.int .i64 0), (.int .i64 0), (.int .i64 0)] [(0, (1, (.const (.int .i64 0)))), (1, (1, (.const (.int .i64 10)))), (2, (1, (.const (.int .i64 20)))), (3, (1, (.const (.int .i64 40))))]), none⟩, ⟨(some 0), (.mov (.tmp 1)), none⟩]) .ret)), 2, [(.tmp 0)]⟩
theorem c86 : compileFn Go.Proofs.Tryd.prog Go.Proofs.Tryd.f86 = some R86 := by kernel_rfl
theorem n86 : R86.ntmps = 2 := rfl
theorem a86 {args : List Value} {H : AHeap} {Q : Value → AHeap → Prop} (h : AWP Go.Proofs.Tryd.prog none R86.code (Fin R86 Q) (args ++ List.replicate (R86.ntmps - args.length) undef) H) : ACall Go.Proofs.Tryd.prog 86 args H Q := acall_intro mo Go.Proofs.Tryd.func86 c86 h

def R87 : RFunc :=
  ⟨(.seq (.ops [⟨(some 0), (.new [(.slice none 0 0)]), none⟩]) (.seq (.ops [⟨(some 1), (.build [(.int .i64 0), (.int .i64 0)] []), none⟩, ⟨(some 2), (.build [(.int .i64 0), (.int .i64 0)] [(0, (1, (.const (.int .i64 2)))), (1, (1, (.const (.int .i64 20))))]), none⟩, ⟨(some 3), (.build [(.int .i64 0), (.int .i64 0)] [(0, (1, (.const (.int .i64 3)))), (1, (1, (.const (.int .i64 40))))]), none⟩, ⟨(some 4), (.buildSlice 2 3 [(.int .i64 0), (.int .i64 0), (.int .i64 0), (.int .i64 0), (.int .i64 0), (.int .i64 0)] [(0, (2, (.tmp 1))), (2, (2, (.tmp 2))), (4, (2, (.tmp 3)))]), none⟩, ⟨(some 5), (.build [(.slice none 0 0)] [(0, (1, (.tmp 4)))]), none⟩, ⟨none, (.store 1 (.tmp 0) (.tmp 5)), none⟩]) .ret)), 6, [(.loadN 1 0)]⟩
theorem c87 : compileFn Go.Proofs.Tryd.prog Go.Proofs.Tryd.f87 = some R87 := by kernel_rfl
theorem n87 : R87.ntmps = 6 := rfl
theorem a87 {args : List Value} {H : AHeap} {Q : Value → AHeap → Prop} (h : AWP Go.Proofs.Tryd.prog none R87.code (Fin R87 Q) (args ++ List.replicate (R87.ntmps - args.length) undef) H) : ACall Go.Proofs.Tryd.prog 87 args H Q := acall_intro mo Go.Proofs.Tryd.func87 c87 h

def R88 : RFunc :=
  ⟨(.seq (.ops [⟨(some 2), (.mov (.const (.int .i64 0))), none⟩]) (.seq (.seq (.ops [⟨(some 5), (.mov (.tmp 0)), none⟩, ⟨(some 6), (.len (.tmp 5)), none⟩, ⟨(some 7), (.mov (.const (.int .i64 0))), none⟩]) (.block 0 (.loop (.seq (.ops [⟨(some 8), (.cmp .lss (.tmp 7) (.tmp 6)), none⟩]) (.seq (.cond (.tmp 8) .skip (.exit 0)) (.seq (.block 1 (.seq (.ops [⟨(some 9), (.idxAddr 1 (.tmp 5) (.tmp 7)), none⟩, ⟨(some 10), (.load (.tmp 9)), none⟩, ⟨(some 4), (.mov (.tmp 10)), none⟩]) (.seq (.ops [⟨(some 11), (.mov (.tmp 4)), none⟩, ⟨(some 12), (.cmp .neq (.tmp 11) (.const (.int .i64 0))), none⟩]) (.cond (.tmp 12) (.seq (.ops [⟨(some 13), (.mov (.tmp 4)), none⟩, ⟨(some 2), (.mov (.tmp 13)), none⟩]) .ret) .skip)))) (.ops [⟨(some 14), (.arith .add (.tmp 7) (.const (.int .i64 1))), none⟩, ⟨(some 7), (.mov (.tmp 14)), none⟩]))))))) (.seq (.ops [⟨(some 2), (.mov (.const (.int .i64 0))), none⟩]) .ret))), 15, [(.tmp 2)]⟩
theorem c88 : compileFn Go.Proofs.Tryd.prog Go.Proofs.Tryd.f88 = some R88 := by kernel_rfl
theorem n88 : R88.ntmps = 15 := rfl
theorem a88 {args : List Value} {H : AHeap} {Q : Value → AHeap → Prop} (h : AWP Go.Proofs.Tryd.prog none R88.code (Fin R88 Q) (args ++ List.replicate (R88.ntmps - args.length) undef) H) : ACall Go.Proofs.Tryd.prog 88 args H Q := acall_intro mo Go.Proofs.Tryd.func88 c88 h

def R89 : RFunc :=
  ⟨(.seq (.ops [⟨(some 2), (.mov (.const (.int .i64 0))), none⟩]) (.seq (.ops [⟨(some 4), (.mov (.tmp 0)), none⟩, ⟨(some 5), (.call (.func 113) [(.tmp 4), (.func 131)]), none⟩, ⟨(some 3), (.mov (.tmp 5)), none⟩]) (.seq (.ops [⟨(some 6), (.mov (.tmp 0)), none⟩, ⟨(some 7), (.len (.tmp 6)), none⟩, ⟨(some 8), (.cmp .leq (.tmp 7) (.const (.int .i64 400))), none⟩, ⟨(some 9), (.call (.func 93) [(.tmp 8), (.const (.int .i64 8))]), none⟩, ⟨(some 10), (.mov (.tmp 3)), none⟩, ⟨(some 11), (.not (.tmp 10)), none⟩, ⟨(some 12), (.call (.func 93) [(.tmp 11), (.const (.int .i64 2))]), none⟩, ⟨(some 13), (.buildSlice 1 2 [(.int .i64 0), (.int .i64 0)] [(0, (1, (.tmp 9))), (1, (1, (.tmp 12)))]), none⟩, ⟨(some 14), (.call (.func 88) [(.tmp 13)]), none⟩, ⟨(some 2), (.mov (.tmp 14)), none⟩]) .ret))), 15, [(.tmp 2)]⟩
theorem c89 : compileFn Go.Proofs.Tryd.prog Go.Proofs.Tryd.f89 = some R89 := by kernel_rfl
theorem n89 : R89.ntmps = 15 := rfl
theorem a89 {args : List Value} {H : AHeap} {Q : Value → AHeap → Prop} (h : AWP Go.Proofs.Tryd.prog none R89.code (Fin R89 Q) (args ++ List.replicate (R89.ntmps - args.length) undef) H) : ACall Go.Proofs.Tryd.prog 89 args H Q := acall_intro mo Go.Proofs.Tryd.func89 c89 h

def R90 : RFunc :=
  ⟨(.seq (.ops [⟨(some 2), (.box (.tmp 0)), none⟩, ⟨(some 3), (.box (.tmp 1)), none⟩, ⟨(some 4), (.new [(.slice none 0 0)]), none⟩, ⟨(some 5), (.new [(.int .i64 0)]), none⟩]) (.seq (.ops [⟨(some 6), (.new [(.slice none 0 0)]), none⟩]) (.seq (.seq (.ops [⟨(some 8), (.loadN 6 (.tmp 2)), none⟩, ⟨(some 9), (.call (.func 132) [(.tmp 8)]), none⟩]) (.block 0 (.rangeFunc (.tmp 9) [10] (.ops [⟨(some 7), (.mov (.tmp 10)), none⟩]) (.block 1 (.seq (.seq (.ops [⟨(some 11), (.mov (.tmp 7)), none⟩, ⟨(some 12), (.load (.tmp 3)), none⟩, ⟨(some 13), (.arith .sub (.tmp 12) (.const (.int .i64 1))), none⟩, ⟨(some 14), (.arith .mul (.const (.int .i64 64)) (.tmp 13)), none⟩, ⟨(some 15), (.cmp .gtr (.tmp 11) (.tmp 14)), none⟩]) (.cond (.tmp 15) (.exit 0) .skip)) (.seq (.seq (.ops [⟨(some 16), (.load (.tmp 6)), none⟩, ⟨(some 17), (.len (.tmp 16)), none⟩, ⟨(some 18), (.cmp .eql (.tmp 17) (.const (.int .i64 2000))), none⟩]) (.cond (.tmp 18) (.seq (.ops [⟨none, (.store 1 (.tmp 4) (.const (.slice none 0 0))), none⟩, ⟨none, (.store 1 (.tmp 5) (.const (.int .i64 8))), none⟩]) .ret) .skip)) (.ops [⟨(some 19), (.load (.tmp 6)), none⟩, ⟨(some 20), (.mov (.tmp 7)), none⟩, ⟨(some 21), (.buildSlice 1 1 [(.int .i64 0)] [(0, (1, (.tmp 20)))]), none⟩, ⟨(some 22), (.append 1 8 (.tmp 19) (.tmp 21)), none⟩, ⟨none, (.store 1 (.tmp 6) (.tmp 22)), none⟩]))))))) (.seq (.ops [⟨(some 23), (.load (.tmp 6)), none⟩, ⟨none, (.store 1 (.tmp 4) (.tmp 23)), none⟩, ⟨none, (.store 1 (.tmp 5) (.const (.int .i64 0))), none⟩]) .ret)))), 24, [(.load 4), (.load 5)]⟩
theorem c90 : compileFn Go.Proofs.Tryd.prog Go.Proofs.Tryd.f90 = some R90 := by kernel_rfl
theorem n90 : R90.ntmps = 24 := rfl
theorem a90 {args : List Value} {H : AHeap} {Q : Value → AHeap → Prop} (h : AWP Go.Proofs.Tryd.prog none R90.code (Fin R90 Q) (args ++ List.replicate (R90.ntmps - args.length) undef) H) : ACall Go.Proofs.Tryd.prog 90 args H Q := acall_intro mo Go.Proofs.Tryd.func90 c90 h

def R91 : RFunc :=
  ⟨(.seq (.ops [⟨(some 4), (.mov (.const (.int .i64 0))), none⟩]) (.seq (.seq (.ops [⟨(some 5), (.mov (.tmp 0)), none⟩, ⟨(some 6), (.cmp .lss (.tmp 5) (.const (.int .i64 0))), none⟩]) (.cond (.tmp 6) (.seq (.ops [⟨(some 7), (.mov (.tmp 1)), none⟩, ⟨(some 8), (.arith .sub (.tmp 7) (.const (.int .i64 1))), none⟩, ⟨(some 9), (.mov (.tmp 0)), none⟩, ⟨(some 10), (.arith .sub (.tmp 8) (.tmp 9)), none⟩, ⟨(some 11), (.mov (.tmp 1)), none⟩, ⟨(some 12), (.arith .quo (.tmp 10) (.tmp 11)), none⟩, ⟨(some 13), (.neg (.tmp 12)), none⟩, ⟨(some 4), (.mov (.tmp 13)), none⟩]) .ret) .skip)) (.seq (.ops [⟨(some 14), (.mov (.tmp 0)), none⟩, ⟨(some 15), (.mov (.tmp 1)), none⟩, ⟨(some 16), (.arith .quo (.tmp 14) (.tmp 15)), none⟩, ⟨(some 4), (.mov (.tmp 16)), none⟩]) .ret))), 17, [(.tmp 4)]⟩
theorem c91 : compileFn Go.Proofs.Tryd.prog Go.Proofs.Tryd.f91 = some R91 := by kernel_rfl
theorem n91 : R91.ntmps = 17 := rfl
theorem a91 {args : List Value} {H : AHeap} {Q : Value → AHeap → Prop} (h : AWP Go.Proofs.Tryd.prog none R91.code (Fin R91 Q) (args ++ List.replicate (R91.ntmps - args.length) undef) H) : ACall Go.Proofs.Tryd.prog 91 args H Q := acall_intro mo Go.Proofs.Tryd.func91 c91 h

def R92 : RFunc :=
  ⟨(.seq (.ops [⟨(some 3), (.box (.tmp 0)), none⟩, ⟨(some 6), (.mov (.const (.int .i64 0))), none⟩]) (.seq (.ops [⟨(some 7), (.mov (.const (.int .i64 0))), none⟩]) (.seq (.seq (.ops [⟨(some 11), (.fieldAddr 2 (.tmp 3)), none⟩, ⟨(some 12), (.load (.tmp 11)), none⟩, ⟨(some 13), (.mov (.tmp 2)), none⟩, ⟨(some 14), (.arith .rem (.tmp 13) (.const (.int .i64 64))), none⟩, ⟨(some 15), (.call (.tmp 12) [(.tmp 14)]), none⟩, ⟨(some 16), (.len (.tmp 15)), none⟩, ⟨(some 17), (.mov (.const (.int .i64 0))), none⟩]) (.block 0 (.loop (.seq (.ops [⟨(some 18), (.cmp .lss (.tmp 17) (.tmp 16)), none⟩]) (.seq (.cond (.tmp 18) .skip (.exit 0)) (.seq (.block 1 (.seq (.ops [⟨(some 19), (.mov (.tmp 17)), none⟩, ⟨(some 20), (.idxAddr 1 (.tmp 15) (.tmp 17)), none⟩, ⟨(some 21), (.load (.tmp 20)), none⟩, ⟨(some 8), (.mov (.tmp 19)), none⟩, ⟨(some 9), (.mov (.tmp 21)), none⟩]) (.seq (.ops [⟨(some 22), (.mov (.tmp 2)), none⟩, ⟨(some 23), (.arith .quo (.tmp 22) (.const (.int .i64 64))), none⟩, ⟨(some 24), (.fieldAddr 0 (.tmp 3)), none⟩, ⟨(some 25), (.load (.tmp 24)), none⟩, ⟨(some 26), (.arith .add (.tmp 23) (.tmp 25)), none⟩, ⟨(some 27), (.mov (.tmp 8)), none⟩, ⟨(some 28), (.arith .add (.tmp 26) (.tmp 27)), none⟩, ⟨(some 10), (.mov (.tmp 28)), none⟩]) (.ops [⟨(some 29), (.mov (.tmp 7)), none⟩, ⟨(some 30), (.mov (.tmp 9)), none⟩, ⟨(some 31), (.mov (.tmp 1)), none⟩, ⟨(some 32), (.mov (.tmp 10)), none⟩, ⟨(some 33), (.most true (.tmp 32) [(.const (.int .i64 0))]), none⟩, ⟨(some 34), (.mov (.tmp 1)), none⟩, ⟨(some 35), (.len (.tmp 34)), none⟩, ⟨(some 36), (.arith .sub (.tmp 35) (.const (.int .i64 1))), none⟩, ⟨(some 37), (.most false (.tmp 33) [(.tmp 36)]), none⟩, ⟨(some 38), (.idxAddr 1 (.tmp 31) (.tmp 37)), none⟩, ⟨(some 39), (.load (.tmp 38)), none⟩, ⟨(some 40), (.arith .mul (.tmp 30) (.tmp 39)), none⟩, ⟨(some 41), (.arith .add (.tmp 29) (.tmp 40)), none⟩, ⟨(some 7), (.mov (.tmp 41)), none⟩])))) (.ops [⟨(some 42), (.arith .add (.tmp 17) (.const (.int .i64 1))), none⟩, ⟨(some 17), (.mov (.tmp 42)), none⟩]))))))) (.seq (.ops [⟨(some 43), (.mov (.tmp 7)), none⟩, ⟨(some 6), (.mov (.tmp 43)), none⟩]) .ret)))), 44, [(.tmp 6)]⟩
theorem c92 : compileFn Go.Proofs.Tryd.prog Go.Proofs.Tryd.f92 = some R92 := by kernel_rfl
theorem n92 : R92.ntmps = 44 := rfl
theorem a92 {args : List Value} {H : AHeap} {Q : Value → AHeap → Prop} (h : AWP Go.Proofs.Tryd.prog none R92.code (Fin R92 Q) (args ++ List.replicate (R92.ntmps - args.length) undef) H) : ACall Go.Proofs.Tryd.prog 92 args H Q := acall_intro mo Go.Proofs.Tryd.func92 c92 h

def R93 : RFunc :=
  ⟨(.seq (.ops [⟨(some 4), (.mov (.const (.int .i64 0))), none⟩]) (.seq (.seq (.ops [⟨(some 5), (.mov (.tmp 0)), none⟩]) (.cond (.tmp 5) (.seq (.ops [⟨(some 4), (.mov (.const (.int .i64 0))), none⟩]) .ret) .skip)) (.seq (.ops [⟨(some 6), (.mov (.tmp 1)), none⟩, ⟨(some 4), (.mov (.tmp 6)), none⟩]) .ret))), 7, [(.tmp 4)]⟩
theorem c93 : compileFn Go.Proofs.Tryd.prog Go.Proofs.Tryd.f93 = some R93 := by kernel_rfl
theorem n93 : R93.ntmps = 7 := rfl
theorem a93 {args : List Value} {H : AHeap} {Q : Value → AHeap → Prop} (h : AWP Go.Proofs.Tryd.prog none R93.code (Fin R93 Q) (args ++ List.replicate (R93.ntmps - args.length) undef) H) : ACall Go.Proofs.Tryd.prog 93 args H Q := acall_intro mo Go.Proofs.Tryd.func93 c93 h

def R94 : RFunc :=
  ⟨(.seq (.ops [⟨(some 6), (.mov (.const (.bool false))), none⟩]) (.seq (.ops [⟨(some 7), (.mov (.tmp 1)), none⟩, ⟨(some 8), (.mov (.tmp 0)), none⟩, ⟨(some 9), (.cmp .leq (.tmp 7) (.tmp 8)), none⟩, ⟨(some 10), (.mov (.tmp 9)), none⟩, ⟨(some 11), (.mov (.tmp 0)), (some (10, true))⟩, ⟨(some 12), (.mov (.tmp 2)), (some (10, true))⟩, ⟨(some 13), (.cmp .leq (.tmp 11) (.tmp 12)), (some (10, true))⟩, ⟨(some 14), (.pick (.tmp 10) (.tmp 13) (.const (.bool false))), none⟩, ⟨(some 6), (.mov (.tmp 14)), none⟩]) .ret)), 15, [(.tmp 6)]⟩
theorem c94 : compileFn Go.Proofs.Tryd.prog Go.Proofs.Tryd.f94 = some R94 := by kernel_rfl
theorem n94 : R94.ntmps = 15 := rfl
theorem a94 {args : List Value} {H : AHeap} {Q : Value → AHeap → Prop} (h : AWP Go.Proofs.Tryd.prog none R94.code (Fin R94 Q) (args ++ List.replicate (R94.ntmps - args.length) undef) H) : ACall Go.Proofs.Tryd.prog 94 args H Q := acall_intro mo Go.Proofs.Tryd.func94 c94 h

def R95 : RFunc :=
  ⟨(.seq (.ops [⟨(some 2), (.mov (.const (.int .i64 0))), none⟩]) (.seq (.ops [⟨(some 3), (.mov (.tmp 0)), none⟩, ⟨(some 4), (.cmp .eql (.tmp 3) (.const (.int .i64 1))), none⟩, ⟨(some 5), (.mov (.tmp 4)), none⟩, ⟨(some 6), (.mov (.tmp 0)), (some (5, false))⟩, ⟨(some 7), (.cmp .eql (.tmp 6) (.const (.int .i64 3))), (some (5, false))⟩, ⟨(some 8), (.pick (.tmp 5) (.const (.bool true)) (.tmp 7)), none⟩, ⟨(some 9), (.call (.func 93) [(.tmp 8), (.const (.int .i64 15))]), none⟩, ⟨(some 2), (.mov (.tmp 9)), none⟩]) .ret)), 10, [(.tmp 2)]⟩
theorem c95 : compileFn Go.Proofs.Tryd.prog Go.Proofs.Tryd.f95 = some R95 := by kernel_rfl
theorem n95 : R95.ntmps = 10 := rfl
theorem a95 {args : List Value} {H : AHeap} {Q : Value → AHeap → Prop} (h : AWP Go.Proofs.Tryd.prog none R95.code (Fin R95 Q) (args ++ List.replicate (R95.ntmps - args.length) undef) H) : ACall Go.Proofs.Tryd.prog 95 args H Q := acall_intro mo Go.Proofs.Tryd.func95 c95 h

def R96 : RFunc :=
  ⟨(.seq (.ops [⟨(some 2), (.mov (.const (.bool false))), none⟩]) (.seq (.ops [⟨(some 3), (.mov (.tmp 0)), none⟩, ⟨(some 4), (.call (.func 94) [(.tmp 3), (.const (.int .i64 1)), (.const (.int .i64 1000))]), none⟩, ⟨(some 2), (.mov (.tmp 4)), none⟩]) .ret)), 5, [(.tmp 2)]⟩
theorem c96 : compileFn Go.Proofs.Tryd.prog Go.Proofs.Tryd.f96 = some R96 := by kernel_rfl
theorem n96 : R96.ntmps = 5 := rfl
theorem a96 {args : List Value} {H : AHeap} {Q : Value → AHeap → Prop} (h : AWP Go.Proofs.Tryd.prog none R96.code (Fin R96 Q) (args ++ List.replicate (R96.ntmps - args.length) undef) H) : ACall Go.Proofs.Tryd.prog 96 args H Q := acall_intro mo Go.Proofs.Tryd.func96 c96 h

def R97 : RFunc :=
  ⟨(.seq (.ops [⟨(some 1), (.box (.tmp 0)), none⟩, ⟨(some 2), (.mov (.const (.int .i64 0))), none⟩, ⟨(some 3), (.mov (.const (.int .i64 0))), none⟩]) (.seq (.seq (.draw [(⟨(some 9), (.fieldAddr 0 (.tmp 1)), none⟩, false), (⟨(some 10), (.load (.tmp 9)), none⟩, false), (⟨(some 11), (.len (.tmp 10)), none⟩, false), (⟨(some 12), (.cmp .geq (.tmp 11) (.const (.int .i64 2))), none⟩, false), (⟨(some 13), (.call (.func 134) [(.tmp 12), (.const (.int .i64 10))]), none⟩, false), (⟨(some 14), (.fieldAddr 0 (.tmp 1)), none⟩, false), (⟨(some 15), (.load (.tmp 14)), none⟩, false), (⟨(some 16), (.len (.tmp 15)), none⟩, false), (⟨(some 17), (.cmp .leq (.tmp 16) (.const (.int .i64 20))), none⟩, false), (⟨(some 18), (.call (.func 134) [(.tmp 17), (.const (.int .i64 8))]), none⟩, false), (⟨(some 19), (.buildSlice 1 2 [(.int .i64 0), (.int .i64 0)] [(0, (1, (.tmp 13))), (1, (1, (.tmp 18)))]), none⟩, false), (⟨(some 20), (.call (.func 133) [(.tmp 19)]), none⟩, false), (⟨(some 4), (.mov (.tmp 20)), none⟩, false)]) (.seq (.ops [⟨(some 21), (.mov (.tmp 4)), none⟩, ⟨(some 22), (.cmp .neq (.tmp 21) (.const (.int .i64 0))), none⟩]) (.cond (.tmp 22) (.seq (.ops [⟨(some 23), (.mov (.tmp 4)), none⟩, ⟨(some 2), (.mov (.const (.int .i64 0))), none⟩, ⟨(some 3), (.mov (.tmp 23)), none⟩]) .ret) .skip))) (.seq (.ops [⟨(some 24), (.build [(.int .i64 0), (.int .i64 0)] [(0, (1, (.const (.int .i64 (-1))))), (1, (1, (.const (.int .i64 (-1)))))]), none⟩, ⟨(some 5), (.new [(.int .i64 0), (.int .i64 0)]), none⟩, ⟨none, (.store 2 (.tmp 5) (.tmp 24)), none⟩]) (.seq (.seq (.ops [⟨(some 25), (.fieldAddr 0 (.tmp 1)), none⟩, ⟨(some 26), (.load (.tmp 25)), none⟩, ⟨(some 27), (.len (.tmp 26)), none⟩, ⟨(some 28), (.mov (.const (.int .i64 0))), none⟩]) (.block 0 (.loop (.seq (.ops [⟨(some 29), (.cmp .lss (.tmp 28) (.tmp 27)), none⟩]) (.seq (.cond (.tmp 29) .skip (.exit 0)) (.seq (.block 1 (.seq (.ops [⟨(some 30), (.mov (.tmp 28)), none⟩, ⟨(some 31), (.idxAddr 2 (.tmp 26) (.tmp 28)), none⟩, ⟨(some 32), (.loadN 2 (.tmp 31)), none⟩, ⟨(some 7), (.new [(.int .i64 0), (.int .i64 0)]), none⟩, ⟨(some 6), (.mov (.tmp 30)), none⟩, ⟨none, (.store 2 (.tmp 7) (.tmp 32)), none⟩]) (.seq (.seq (.draw [(⟨(some 33), (.fieldAddr 0 (.tmp 7)), none⟩, false), (⟨(some 34), (.load (.tmp 33)), none⟩, false), (⟨(some 35), (.call (.func 135) [(.tmp 34)]), none⟩, false), (⟨(some 36), (.mov (.tmp 35)), none⟩, false), (⟨(some 37), (.fieldAddr 1 (.tmp 7)), (some (36, true))⟩, false), (⟨(some 38), (.load (.tmp 37)), (some (36, true))⟩, false), (⟨(some 39), (.call (.func 136) [(.tmp 38)]), (some (36, true))⟩, false), (⟨(some 40), (.pick (.tmp 36) (.tmp 39) (.const (.bool false))), none⟩, false), (⟨(some 41), (.call (.func 134) [(.tmp 40), (.const (.int .i64 2))]), none⟩, false), (⟨(some 42), (.fieldAddr 0 (.tmp 7)), none⟩, false), (⟨(some 43), (.load (.tmp 42)), none⟩, false), (⟨(some 44), (.fieldAddr 0 (.tmp 5)), none⟩, false), (⟨(some 45), (.load (.tmp 44)), none⟩, false), (⟨(some 46), (.cmp .gtr (.tmp 43) (.tmp 45)), none⟩, false), (⟨(some 47), (.mov (.tmp 46)), none⟩, false), (⟨(some 48), (.fieldAddr 1 (.tmp 7)), (some (47, true))⟩, false), (⟨(some 49), (.load (.tmp 48)), (some (47, true))⟩, false), (⟨(some 50), (.fieldAddr 1 (.tmp 5)), (some (47, true))⟩, false), (⟨(some 51), (.load (.tmp 50)), (some (47, true))⟩, false), (⟨(some 52), (.cmp .gtr (.tmp 49) (.tmp 51)), (some (47, true))⟩, false), (⟨(some 53), (.pick (.tmp 47) (.tmp 52) (.const (.bool false))), none⟩, false), (⟨(some 54), (.call (.func 134) [(.tmp 53), (.const (.int .i64 9))]), none⟩, false), (⟨(some 55), (.buildSlice 1 2 [(.int .i64 0), (.int .i64 0)] [(0, (1, (.tmp 41))), (1, (1, (.tmp 54)))]), none⟩, false), (⟨(some 56), (.call (.func 133) [(.tmp 55)]), none⟩, false), (⟨(some 8), (.mov (.tmp 56)), none⟩, false)]) (.seq (.ops [⟨(some 57), (.mov (.tmp 8)), none⟩, ⟨(some 58), (.cmp .neq (.tmp 57) (.const (.int .i64 0))), none⟩]) (.cond (.tmp 58) (.seq (.ops [⟨(some 59), (.mov (.tmp 6)), none⟩, ⟨(some 60), (.mov (.tmp 8)), none⟩, ⟨(some 2), (.mov (.tmp 59)), none⟩, ⟨(some 3), (.mov (.tmp 60)), none⟩]) .ret) .skip))) (.ops [⟨(some 61), (.loadN 2 (.tmp 7)), none⟩, ⟨none, (.store 2 (.tmp 5) (.tmp 61)), none⟩])))) (.ops [⟨(some 62), (.arith .add (.tmp 28) (.const (.int .i64 1))), none⟩, ⟨(some 28), (.mov (.tmp 62)), none⟩]))))))) (.seq (.ops [⟨(some 2), (.mov (.const (.int .i64 0))), none⟩, ⟨(some 3), (.mov (.const (.int .i64 0))), none⟩]) .ret))))), 63, [(.tmp 2), (.tmp 3)]⟩
theorem c97 : compileFn Go.Proofs.Tryd.prog Go.Proofs.Tryd.f97 = some R97 := by kernel_rfl
theorem n97 : R97.ntmps = 63 := rfl
theorem a97 {args : List Value} {H : AHeap} {Q : Value → AHeap → Prop} (h : AWP Go.Proofs.Tryd.prog none R97.code (Fin R97 Q) (args ++ List.replicate (R97.ntmps - args.length) undef) H) : ACall Go.Proofs.Tryd.prog 97 args H Q := acall_intro mo Go.Proofs.Tryd.func97 c97 h

def R98 : RFunc :=
  ⟨(.seq (.ops [⟨(some 2), (.box (.tmp 0)), none⟩, ⟨(some 4), (.new [(.int .i64 0), (.int .i64 0)]), none⟩]) (.seq (.ops [⟨(some 5), (.mov (.const (.int .i64 0))), none⟩]) (.seq (.block 0 (.loop (.seq (.seq (.ops [⟨(some 13), (.fieldAddr 0 (.tmp 2)), none⟩, ⟨(some 14), (.load (.tmp 13)), none⟩, ⟨(some 15), (.mov (.tmp 5)), none⟩, ⟨(some 16), (.arith .add (.tmp 15) (.const (.int .i64 1))), none⟩, ⟨(some 17), (.idxAddr 2 (.tmp 14) (.tmp 16)), none⟩, ⟨(some 18), (.fieldAddr 1 (.tmp 17)), none⟩, ⟨(some 19), (.load (.tmp 18)), none⟩, ⟨(some 20), (.mov (.tmp 1)), none⟩, ⟨(some 21), (.cmp .lss (.tmp 19) (.tmp 20)), none⟩]) (.cond (.tmp 21) .skip (.exit 0))) (.block 1 (.ops [⟨(some 22), (.mov (.tmp 5)), none⟩, ⟨(some 23), (.arith .add (.tmp 22) (.const (.int .i64 1))), none⟩, ⟨(some 5), (.mov (.tmp 23)), none⟩]))))) (.seq (.drawF [(6, (2, (.tmp 28))), (7, (2, (.tmp 34)))] [(⟨(some 24), (.fieldAddr 0 (.tmp 2)), none⟩, false), (⟨(some 25), (.load (.tmp 24)), none⟩, false), (⟨(some 26), (.mov (.tmp 5)), none⟩, false), (⟨(some 27), (.idxAddr 2 (.tmp 25) (.tmp 26)), none⟩, false), (⟨(some 28), (.loadN 2 (.tmp 27)), none⟩, false), (⟨(some 29), (.fieldAddr 0 (.tmp 2)), none⟩, false), (⟨(some 30), (.load (.tmp 29)), none⟩, false), (⟨(some 31), (.mov (.tmp 5)), none⟩, false), (⟨(some 32), (.arith .add (.tmp 31) (.const (.int .i64 1))), none⟩, false), (⟨(some 33), (.idxAddr 2 (.tmp 30) (.tmp 32)), none⟩, false), (⟨(some 34), (.loadN 2 (.tmp 33)), none⟩, false), (⟨none, (.mov (.const (.bool false))), none⟩, false), (⟨none, (.mov (.const (.bool false))), none⟩, false), (⟨none, (.mov (.const (.bool false))), none⟩, false), (⟨none, (.mov (.const (.bool false))), none⟩, false)]) (.seq (.draw [(⟨(some 35), (.fieldAddr 0 (.tmp 7)), none⟩, false), (⟨(some 36), (.load (.tmp 35)), none⟩, false), (⟨(some 37), (.fieldAddr 0 (.tmp 6)), none⟩, false), (⟨(some 38), (.load (.tmp 37)), none⟩, false), (⟨(some 39), (.arith .sub (.tmp 36) (.tmp 38)), none⟩, false), (⟨(some 40), (.mov (.tmp 1)), none⟩, false), (⟨(some 41), (.fieldAddr 1 (.tmp 6)), none⟩, false), (⟨(some 42), (.load (.tmp 41)), none⟩, false), (⟨(some 43), (.arith .sub (.tmp 40) (.tmp 42)), none⟩, false), (⟨(some 44), (.arith .mul (.tmp 39) (.tmp 43)), none⟩, false), (⟨(some 45), (.fieldAddr 1 (.tmp 7)), none⟩, false), (⟨(some 46), (.load (.tmp 45)), none⟩, false), (⟨(some 47), (.fieldAddr 1 (.tmp 6)), none⟩, false), (⟨(some 48), (.load (.tmp 47)), none⟩, false), (⟨(some 49), (.arith .sub (.tmp 46) (.tmp 48)), none⟩, false), (⟨(some 8), (.mov (.tmp 44)), none⟩, false), (⟨(some 9), (.mov (.tmp 49)), none⟩, false)]) (.seq (.draw [(⟨(some 50), (.mov (.tmp 8)), none⟩, false), (⟨(some 51), (.mov (.tmp 9)), none⟩, false), (⟨(some 52), (.arith .quo (.tmp 50) (.tmp 51)), none⟩, false), (⟨(some 53), (.mov (.tmp 8)), none⟩, false), (⟨(some 54), (.mov (.tmp 9)), none⟩, false), (⟨(some 55), (.arith .rem (.tmp 53) (.tmp 54)), none⟩, false), (⟨(some 10), (.mov (.tmp 52)), none⟩, false), (⟨(some 11), (.mov (.tmp 55)), none⟩, false)]) (.seq (.ops [⟨(some 56), (.fieldAddr 0 (.tmp 6)), none⟩, ⟨(some 57), (.load (.tmp 56)), none⟩, ⟨(some 58), (.mov (.tmp 10)), none⟩, ⟨(some 59), (.arith .add (.tmp 57) (.tmp 58)), none⟩, ⟨(some 60), (.arith .mul (.const (.int .i64 64)) (.tmp 59)), none⟩, ⟨(some 12), (.mov (.tmp 60)), none⟩]) (.seq (.ops [⟨(some 61), (.mov (.tmp 12)), none⟩, ⟨(some 62), (.mov (.tmp 11)), none⟩, ⟨(some 63), (.arith .mul (.const (.int .i64 64)) (.tmp 62)), none⟩, ⟨(some 64), (.mov (.tmp 9)), none⟩, ⟨(some 65), (.call (.func 54) [(.tmp 63), (.tmp 64)]), none⟩, ⟨(some 66), (.arith .add (.tmp 61) (.tmp 65)), none⟩, ⟨(some 67), (.mov (.tmp 12)), none⟩, ⟨(some 68), (.mov (.tmp 11)), none⟩, ⟨(some 69), (.arith .mul (.const (.int .i64 64)) (.tmp 68)), none⟩, ⟨(some 70), (.mov (.tmp 9)), none⟩, ⟨(some 71), (.call (.func 84) [(.tmp 69), (.tmp 70)]), none⟩, ⟨(some 72), (.arith .add (.tmp 67) (.tmp 71)), none⟩, ⟨(some 73), (.build [(.int .i64 0), (.int .i64 0)] [(0, (1, (.tmp 66))), (1, (1, (.tmp 72)))]), none⟩, ⟨none, (.store 2 (.tmp 4) (.tmp 73)), none⟩]) .ret)))))))), 74, [(.loadN 2 4)]⟩
theorem c98 : compileFn Go.Proofs.Tryd.prog Go.Proofs.Tryd.f98 = some R98 := by kernel_rfl
theorem n98 : R98.ntmps = 74 := rfl
theorem a98 {args : List Value} {H : AHeap} {Q : Value → AHeap → Prop} (h : AWP Go.Proofs.Tryd.prog none R98.code (Fin R98 Q) (args ++ List.replicate (R98.ntmps - args.length) undef) H) : ACall Go.Proofs.Tryd.prog 98 args H Q := acall_intro mo Go.Proofs.Tryd.func98 c98 h

def R99 : RFunc :=
  ⟨(.seq (.ops [⟨(some 2), (.mov (.const (.int .i64 0))), none⟩]) (.seq (.ops [⟨(some 3), (.mov (.tmp 0)), none⟩, ⟨(some 4), (.call (.func 94) [(.tmp 3), (.const (.int .i64 0)), (.const (.int .i64 63))]), none⟩, ⟨(some 5), (.call (.func 93) [(.tmp 4), (.const (.int .i64 2))]), none⟩, ⟨(some 2), (.mov (.tmp 5)), none⟩]) .ret)), 6, [(.tmp 2)]⟩
theorem c99 : compileFn Go.Proofs.Tryd.prog Go.Proofs.Tryd.f99 = some R99 := by kernel_rfl
theorem n99 : R99.ntmps = 6 := rfl
theorem a99 {args : List Value} {H : AHeap} {Q : Value → AHeap → Prop} (h : AWP Go.Proofs.Tryd.prog none R99.code (Fin R99 Q) (args ++ List.replicate (R99.ntmps - args.length) undef) H) : ACall Go.Proofs.Tryd.prog 99 args H Q := acall_intro mo Go.Proofs.Tryd.func99 c99 h

def R100 : RFunc :=
  ⟨(.seq (.ops [⟨(some 2), (.mov (.const (.int .i64 0))), none⟩]) (.seq (.ops [⟨(some 3), (.mov (.tmp 0)), none⟩, ⟨(some 4), (.call (.func 94) [(.tmp 3), (.const (.int .i64 0)), (.const (.int .i64 32767))]), none⟩, ⟨(some 5), (.call (.func 93) [(.tmp 4), (.const (.int .i64 2))]), none⟩, ⟨(some 2), (.mov (.tmp 5)), none⟩]) .ret)), 6, [(.tmp 2)]⟩
theorem c100 : compileFn Go.Proofs.Tryd.prog Go.Proofs.Tryd.f100 = some R100 := by kernel_rfl
theorem n100 : R100.ntmps = 6 := rfl
theorem a100 {args : List Value} {H : AHeap} {Q : Value → AHeap → Prop} (h : AWP Go.Proofs.Tryd.prog none R100.code (Fin R100 Q) (args ++ List.replicate (R100.ntmps - args.length) undef) H) : ACall Go.Proofs.Tryd.prog 100 args H Q := acall_intro mo Go.Proofs.Tryd.func100 c100 h

def R101 : RFunc :=
  ⟨(.seq (.ops [⟨(some 1), (.box (.tmp 0)), none⟩, ⟨(some 2), (.mov (.const (.int .i64 0))), none⟩]) (.seq (.draw [(⟨(some 3), (.fieldAddr 0 (.tmp 1)), none⟩, false), (⟨(some 4), (.load (.tmp 3)), none⟩, false), (⟨(some 5), (.fieldAddr 0 (.tmp 1)), none⟩, false), (⟨(some 6), (.load (.tmp 5)), none⟩, false), (⟨(some 7), (.call (.func 129) [(.tmp 6)]), none⟩, false), (⟨(some 8), (.arith .mul (.tmp 4) (.tmp 7)), none⟩, false), (⟨(some 9), (.fieldAddr 1 (.tmp 1)), none⟩, false), (⟨(some 10), (.load (.tmp 9)), none⟩, false), (⟨(some 11), (.fieldAddr 1 (.tmp 1)), none⟩, false), (⟨(some 12), (.load (.tmp 11)), none⟩, false), (⟨(some 13), (.call (.func 129) [(.tmp 12)]), none⟩, false), (⟨(some 14), (.arith .mul (.tmp 10) (.tmp 13)), none⟩, false), (⟨(some 15), (.arith .add (.tmp 8) (.tmp 14)), none⟩, false), (⟨(some 2), (.mov (.tmp 15)), none⟩, false)]) .ret)), 16, [(.tmp 2)]⟩
theorem c101 : compileFn Go.Proofs.Tryd.prog Go.Proofs.Tryd.f101 = some R101 := by kernel_rfl
theorem n101 : R101.ntmps = 16 := rfl
theorem a101 {args : List Value} {H : AHeap} {Q : Value → AHeap → Prop} (h : AWP Go.Proofs.Tryd.prog none R101.code (Fin R101 Q) (args ++ List.replicate (R101.ntmps - args.length) undef) H) : ACall Go.Proofs.Tryd.prog 101 args H Q := acall_intro mo Go.Proofs.Tryd.func101 c101 h

def R102 : RFunc :=
  ⟨(.seq (.ops [⟨(some 3), (.box (.tmp 0)), none⟩, ⟨(some 6), (.mov (.const (.bool false))), none⟩]) (.seq (.draw [(⟨(some 7), (.mov (.tmp 1)), none⟩, false), (⟨(some 8), (.loadN 3 (.tmp 3)), none⟩, false), (⟨(some 9), (.call (.func 101) [(.tmp 8)]), none⟩, false), (⟨(some 10), (.neg (.tmp 9)), none⟩, false), (⟨(some 11), (.mov (.tmp 2)), none⟩, false), (⟨(some 12), (.arith .mul (.tmp 10) (.tmp 11)), none⟩, false), (⟨(some 13), (.fieldAddr 2 (.tmp 3)), none⟩, false), (⟨(some 14), (.load (.tmp 13)), none⟩, false), (⟨(some 15), (.call (.func 91) [(.tmp 12), (.tmp 14)]), none⟩, false), (⟨(some 16), (.arith .sub (.tmp 7) (.tmp 15)), none⟩, false), (⟨(some 17), (.mov (.tmp 2)), none⟩, false), (⟨(some 18), (.cmp .leq (.tmp 16) (.tmp 17)), none⟩, false), (⟨(some 6), (.mov (.tmp 18)), none⟩, false)]) .ret)), 19, [(.tmp 6)]⟩
theorem c102 : compileFn Go.Proofs.Tryd.prog Go.Proofs.Tryd.f102 = some R102 := by kernel_rfl
theorem n102 : R102.ntmps = 19 := rfl
theorem a102 {args : List Value} {H : AHeap} {Q : Value → AHeap → Prop} (h : AWP Go.Proofs.Tryd.prog none R102.code (Fin R102 Q) (args ++ List.replicate (R102.ntmps - args.length) undef) H) : ACall Go.Proofs.Tryd.prog 102 args H Q := acall_intro mo Go.Proofs.Tryd.func102 c102 h

def R103 : RFunc :=
  ⟨(.seq (.ops [⟨(some 3), (.box (.tmp 0)), none⟩, ⟨(some 6), (.mov (.const (.int .i64 0))), none⟩]) (.seq (.seq (.ops [⟨(some 7), (.loadN 3 (.tmp 3)), none⟩, ⟨(some 8), (.call (.func 72) [(.tmp 7)]), none⟩, ⟨(some 9), (.cmp .neq (.tmp 8) (.const (.int .i64 0))), none⟩, ⟨(some 10), (.mov (.tmp 9)), none⟩, ⟨(some 11), (.mov (.tmp 2)), (some (10, false))⟩, ⟨(some 12), (.call (.func 94) [(.tmp 11), (.const (.int .i64 0)), (.const (.int .i64 1000000000000000))]), (some (10, false))⟩, ⟨(some 13), (.not (.tmp 12)), (some (10, false))⟩, ⟨(some 14), (.pick (.tmp 10) (.const (.bool true)) (.tmp 13)), none⟩]) (.cond (.tmp 14) (.seq (.ops [⟨(some 6), (.mov (.const (.int .i64 0))), none⟩]) .ret) .skip)) (.seq (.ops [⟨(some 15), (.loadN 3 (.tmp 3)), none⟩, ⟨(some 16), (.mov (.tmp 1)), none⟩, ⟨(some 17), (.mov (.tmp 2)), none⟩, ⟨(some 18), (.call (.func 102) [(.tmp 15), (.tmp 16), (.tmp 17)]), none⟩, ⟨(some 19), (.call (.func 93) [(.tmp 18), (.const (.int .i64 19))]), none⟩, ⟨(some 6), (.mov (.tmp 19)), none⟩]) .ret))), 20, [(.tmp 6)]⟩
theorem c103 : compileFn Go.Proofs.Tryd.prog Go.Proofs.Tryd.f103 = some R103 := by kernel_rfl
theorem n103 : R103.ntmps = 20 := rfl
theorem a103 {args : List Value} {H : AHeap} {Q : Value → AHeap → Prop} (h : AWP Go.Proofs.Tryd.prog none R103.code (Fin R103 Q) (args ++ List.replicate (R103.ntmps - args.length) undef) H) : ACall Go.Proofs.Tryd.prog 103 args H Q := acall_intro mo Go.Proofs.Tryd.func103 c103 h

def R104 : RFunc :=
  ⟨(.seq (.ops [⟨(some 1), (.box (.tmp 0)), none⟩, ⟨(some 2), (.mov (.const (.int .i64 0))), none⟩]) (.seq (.draw [(⟨(some 3), (.fieldAddr 0 (.tmp 1)), none⟩, false), (⟨(some 4), (.load (.tmp 3)), none⟩, false), (⟨(some 5), (.call (.func 35) [(.tmp 4)]), none⟩, false), (⟨(some 6), (.fieldAddr 1 (.tmp 1)), none⟩, false), (⟨(some 7), (.load (.tmp 6)), none⟩, false), (⟨(some 8), (.call (.func 35) [(.tmp 7)]), none⟩, false), (⟨(some 9), (.arith .add (.tmp 5) (.tmp 8)), none⟩, false), (⟨(some 2), (.mov (.tmp 9)), none⟩, false)]) .ret)), 10, [(.tmp 2)]⟩
theorem c104 : compileFn Go.Proofs.Tryd.prog Go.Proofs.Tryd.f104 = some R104 := by kernel_rfl
theorem n104 : R104.ntmps = 10 := rfl
theorem a104 {args : List Value} {H : AHeap} {Q : Value → AHeap → Prop} (h : AWP Go.Proofs.Tryd.prog none R104.code (Fin R104 Q) (args ++ List.replicate (R104.ntmps - args.length) undef) H) : ACall Go.Proofs.Tryd.prog 104 args H Q := acall_intro mo Go.Proofs.Tryd.func104 c104 h

def R105 : RFunc :=
  ⟨(.seq (.ops [⟨(some 1), (.box (.tmp 0)), none⟩, ⟨(some 2), (.mov (.const (.int .i64 0))), none⟩, ⟨(some 3), (.mov (.const (.int .i64 0))), none⟩]) (.seq (.seq (.ops [⟨(some 6), (.fieldAddr 0 (.tmp 1)), none⟩, ⟨(some 7), (.load (.tmp 6)), none⟩, ⟨(some 8), (.len (.tmp 7)), none⟩, ⟨(some 9), (.cmp .lss (.tmp 8) (.const (.int .i64 2))), none⟩]) (.cond (.tmp 9) (.seq (.ops [⟨(some 2), (.mov (.const (.int .i64 0))), none⟩, ⟨(some 3), (.mov (.const (.int .i64 10))), none⟩]) .ret) .skip)) (.seq (.seq (.ops [⟨(some 10), (.fieldAddr 0 (.tmp 1)), none⟩, ⟨(some 11), (.load (.tmp 10)), none⟩, ⟨(some 12), (.len (.tmp 11)), none⟩, ⟨(some 13), (.cmp .gtr (.tmp 12) (.const (.int .i64 20))), none⟩]) (.cond (.tmp 13) (.seq (.ops [⟨(some 2), (.mov (.const (.int .i64 0))), none⟩, ⟨(some 3), (.mov (.const (.int .i64 8))), none⟩]) .ret) .skip)) (.seq (.seq (.ops [⟨(some 4), (.mov (.const (.int .i64 0))), none⟩]) (.block 0 (.loop (.seq (.seq (.ops [⟨(some 14), (.mov (.tmp 4)), none⟩, ⟨(some 15), (.fieldAddr 0 (.tmp 1)), none⟩, ⟨(some 16), (.load (.tmp 15)), none⟩, ⟨(some 17), (.len (.tmp 16)), none⟩, ⟨(some 18), (.cmp .lss (.tmp 14) (.tmp 17)), none⟩]) (.cond (.tmp 18) .skip (.exit 0))) (.seq (.block 1 (.seq (.ops [⟨(some 21), (.fieldAddr 0 (.tmp 1)), none⟩, ⟨(some 22), (.load (.tmp 21)), none⟩, ⟨(some 23), (.mov (.tmp 4)), none⟩, ⟨(some 24), (.idxAddr 2 (.tmp 22) (.tmp 23)), none⟩, ⟨(some 25), (.loadN 2 (.tmp 24)), none⟩, ⟨(some 5), (.new [(.int .i64 0), (.int .i64 0)]), none⟩, ⟨none, (.store 2 (.tmp 5) (.tmp 25)), none⟩]) (.seq (.seq (.ops [⟨(some 26), (.fieldAddr 0 (.tmp 5)), none⟩, ⟨(some 27), (.load (.tmp 26)), none⟩, ⟨(some 28), (.call (.func 137) [(.tmp 27)]), none⟩, ⟨(some 29), (.not (.tmp 28)), none⟩, ⟨(some 30), (.mov (.tmp 29)), none⟩, ⟨(some 31), (.fieldAddr 1 (.tmp 5)), (some (30, false))⟩, ⟨(some 32), (.load (.tmp 31)), (some (30, false))⟩, ⟨(some 33), (.call (.func 138) [(.tmp 32)]), (some (30, false))⟩, ⟨(some 34), (.not (.tmp 33)), (some (30, false))⟩, ⟨(some 35), (.pick (.tmp 30) (.const (.bool true)) (.tmp 34)), none⟩]) (.cond (.tmp 35) (.seq (.ops [⟨(some 36), (.mov (.tmp 4)), none⟩, ⟨(some 2), (.mov (.tmp 36)), none⟩, ⟨(some 3), (.mov (.const (.int .i64 2))), none⟩]) .ret) .skip)) (.seq (.draw [(⟨(some 37), (.mov (.tmp 4)), none⟩, false), (⟨(some 38), (.cmp .gtr (.tmp 37) (.const (.int .i64 0))), none⟩, false), (⟨(some 39), (.mov (.tmp 38)), none⟩, false), (⟨(some 40), (.fieldAddr 0 (.tmp 5)), (some (39, true))⟩, false), (⟨(some 41), (.load (.tmp 40)), (some (39, true))⟩, false), (⟨(some 42), (.fieldAddr 0 (.tmp 1)), (some (39, true))⟩, false), (⟨(some 43), (.load (.tmp 42)), (some (39, true))⟩, false), (⟨(some 44), (.mov (.tmp 4)), (some (39, true))⟩, false), (⟨(some 45), (.arith .sub (.tmp 44) (.const (.int .i64 1))), (some (39, true))⟩, false), (⟨(some 46), (.idxAddr 2 (.tmp 43) (.tmp 45)), (some (39, true))⟩, false), (⟨(some 47), (.fieldAddr 0 (.tmp 46)), (some (39, true))⟩, false), (⟨(some 48), (.load (.tmp 47)), (some (39, true))⟩, false), (⟨(some 49), (.cmp .leq (.tmp 41) (.tmp 48)), (some (39, true))⟩, false), (⟨(some 50), (.mov (.tmp 49)), (some (39, true))⟩, false), (⟨(some 51), (.fieldAddr 1 (.tmp 5)), (some (50, false))⟩, false), (⟨(some 52), (.load (.tmp 51)), (some (50, false))⟩, false), (⟨(some 53), (.fieldAddr 0 (.tmp 1)), (some (50, false))⟩, false), (⟨(some 54), (.load (.tmp 53)), (some (50, false))⟩, false), (⟨(some 55), (.mov (.tmp 4)), (some (50, false))⟩, false), (⟨(some 56), (.arith .sub (.tmp 55) (.const (.int .i64 1))), (some (50, false))⟩, false), (⟨(some 57), (.idxAddr 2 (.tmp 54) (.tmp 56)), (some (50, false))⟩, false), (⟨(some 58), (.fieldAddr 1 (.tmp 57)), (some (50, false))⟩, false), (⟨(some 59), (.load (.tmp 58)), (some (50, false))⟩, false), (⟨(some 60), (.cmp .leq (.tmp 52) (.tmp 59)), (some (50, false))⟩, false), (⟨(some 61), (.pick (.tmp 50) (.const (.bool true)) (.tmp 60)), (some (39, true))⟩, false), (⟨(some 62), (.pick (.tmp 39) (.tmp 61) (.const (.bool false))), none⟩, false)]) (.cond (.tmp 62) (.seq (.ops [⟨(some 63), (.mov (.tmp 4)), none⟩, ⟨(some 2), (.mov (.tmp 63)), none⟩, ⟨(some 3), (.mov (.const (.int .i64 9))), none⟩]) .ret) .skip))))) (.ops [⟨(some 19), (.mov (.tmp 4)), none⟩, ⟨(some 20), (.arith .add (.tmp 19) (.const (.int .i64 1))), none⟩, ⟨(some 4), (.mov (.tmp 20)), none⟩])))))) (.seq (.ops [⟨(some 2), (.mov (.const (.int .i64 0))), none⟩, ⟨(some 3), (.mov (.const (.int .i64 0))), none⟩]) .ret))))), 64, [(.tmp 2), (.tmp 3)]⟩
theorem c105 : compileFn Go.Proofs.Tryd.prog Go.Proofs.Tryd.f105 = some R105 := by kernel_rfl
theorem n105 : R105.ntmps = 64 := rfl
theorem a105 {args : List Value} {H : AHeap} {Q : Value → AHeap → Prop} (h : AWP Go.Proofs.Tryd.prog none R105.code (Fin R105 Q) (args ++ List.replicate (R105.ntmps - args.length) undef) H) : ACall Go.Proofs.Tryd.prog 105 args H Q := acall_intro mo Go.Proofs.Tryd.func105 c105 h

def R106 : RFunc :=
  ⟨(.seq (.ops [⟨(some 2), (.mov (.const (.int .i64 0))), none⟩]) (.seq (.seq (.ops [⟨(some 7), (.mov (.tmp 0)), none⟩, ⟨(some 8), (.len (.tmp 7)), none⟩, ⟨(some 9), (.mov (.const (.int .i64 0))), none⟩]) (.block 0 (.loop (.seq (.ops [⟨(some 10), (.cmp .lss (.tmp 9) (.tmp 8)), none⟩]) (.seq (.cond (.tmp 10) .skip (.exit 0)) (.seq (.block 1 (.seq (.ops [⟨(some 11), (.idxAddr 1 (.tmp 7) (.tmp 9)), none⟩, ⟨(some 12), (.loadN 1 (.tmp 11)), none⟩, ⟨(some 4), (.new [(.slice none 0 0)]), none⟩, ⟨none, (.store 1 (.tmp 4) (.tmp 12)), none⟩]) (.seq (.ops [⟨(some 14), (.loadN 1 (.tmp 4)), none⟩, ⟨(some 15), (.call (.func 97) [(.tmp 14)]), none⟩, ⟨(some 13), (.mov (.tmp 15)), none⟩, ⟨(some 16), (.extract (.tmp 13) 0), none⟩, ⟨(some 17), (.extract (.tmp 13) 1), none⟩, ⟨(some 5), (.mov (.tmp 16)), none⟩, ⟨(some 6), (.mov (.tmp 17)), none⟩]) (.seq (.ops [⟨(some 18), (.mov (.tmp 6)), none⟩, ⟨(some 19), (.cmp .neq (.tmp 18) (.const (.int .i64 0))), none⟩]) (.cond (.tmp 19) (.seq (.ops [⟨(some 20), (.mov (.tmp 6)), none⟩, ⟨(some 2), (.mov (.tmp 20)), none⟩]) .ret) .skip))))) (.ops [⟨(some 21), (.arith .add (.tmp 9) (.const (.int .i64 1))), none⟩, ⟨(some 9), (.mov (.tmp 21)), none⟩]))))))) (.seq (.ops [⟨(some 2), (.mov (.const (.int .i64 0))), none⟩]) .ret))), 22, [(.tmp 2)]⟩
theorem c106 : compileFn Go.Proofs.Tryd.prog Go.Proofs.Tryd.f106 = some R106 := by kernel_rfl
theorem n106 : R106.ntmps = 22 := rfl
theorem a106 {args : List Value} {H : AHeap} {Q : Value → AHeap → Prop} (h : AWP Go.Proofs.Tryd.prog none R106.code (Fin R106 Q) (args ++ List.replicate (R106.ntmps - args.length) undef) H) : ACall Go.Proofs.Tryd.prog 106 args H Q := acall_intro mo Go.Proofs.Tryd.func106 c106 h

def R110 : RFunc :=
  ⟨(.seq (.ops [⟨(some 1), (.box (.tmp 0)), none⟩, ⟨(some 2), (.mov (.const (.int .i64 0))), none⟩]) (.seq (.ops [⟨(some 3), (.fieldAddr 2 (.tmp 1)), none⟩, ⟨(some 4), (.fieldAddr 0 (.tmp 3)), none⟩, ⟨(some 5), (.load (.tmp 4)), none⟩, ⟨(some 6), (.fieldAddr 0 (.tmp 1)), none⟩, ⟨(some 7), (.fieldAddr 0 (.tmp 6)), none⟩, ⟨(some 8), (.load (.tmp 7)), none⟩, ⟨(some 9), (.arith .sub (.tmp 5) (.tmp 8)), none⟩, ⟨(some 2), (.mov (.tmp 9)), none⟩]) .ret)), 10, [(.tmp 2)]⟩
theorem c110 : compileFn Go.Proofs.Tryd.prog Go.Proofs.Tryd.f110 = some R110 := by kernel_rfl
theorem n110 : R110.ntmps = 10 := rfl
theorem a110 {args : List Value} {H : AHeap} {Q : Value → AHeap → Prop} (h : AWP Go.Proofs.Tryd.prog none R110.code (Fin R110 Q) (args ++ List.replicate (R110.ntmps - args.length) undef) H) : ACall Go.Proofs.Tryd.prog 110 args H Q := acall_intro mo Go.Proofs.Tryd.func110 c110 h

def R113 : RFunc :=
  ⟨(.seq (.ops [⟨(some 4), (.mov (.const (.bool false))), none⟩]) (.seq (.ops [⟨(some 5), (.mov (.tmp 0)), none⟩, ⟨(some 6), (.mov (.tmp 1)), none⟩, ⟨(some 7), (.call (.func 143) [(.tmp 5), (.tmp 6)]), none⟩, ⟨(some 8), (.cmp .geq (.tmp 7) (.const (.int .i64 0))), none⟩, ⟨(some 4), (.mov (.tmp 8)), none⟩]) .ret)), 9, [(.tmp 4)]⟩
theorem c113 : compileFn Go.Proofs.Tryd.prog Go.Proofs.Tryd.f113 = some R113 := by kernel_rfl
theorem n113 : R113.ntmps = 9 := rfl
theorem a113 {args : List Value} {H : AHeap} {Q : Value → AHeap → Prop} (h : AWP Go.Proofs.Tryd.prog none R113.code (Fin R113 Q) (args ++ List.replicate (R113.ntmps - args.length) undef) H) : ACall Go.Proofs.Tryd.prog 113 args H Q := acall_intro mo Go.Proofs.Tryd.func113 c113 h

def R114 : RFunc :=
  ⟨(.seq (.ops [⟨(some 2), (.mov (.const (.bool false))), none⟩]) (.seq (.ops [⟨(some 3), (.mov (.tmp 0)), none⟩, ⟨(some 4), (.call (.func 115) [(.tmp 3)]), none⟩, ⟨(some 5), (.not (.tmp 4)), none⟩, ⟨(some 2), (.mov (.tmp 5)), none⟩]) .ret)), 6, [(.tmp 2)]⟩
theorem c114 : compileFn Go.Proofs.Tryd.prog Go.Proofs.Tryd.f114 = some R114 := by kernel_rfl
theorem n114 : R114.ntmps = 6 := rfl
theorem a114 {args : List Value} {H : AHeap} {Q : Value → AHeap → Prop} (h : AWP Go.Proofs.Tryd.prog none R114.code (Fin R114 Q) (args ++ List.replicate (R114.ntmps - args.length) undef) H) : ACall Go.Proofs.Tryd.prog 114 args H Q := acall_intro mo Go.Proofs.Tryd.func114 c114 h

def R115 : RFunc :=
  ⟨(.seq (.ops [⟨(some 2), (.mov (.const (.bool false))), none⟩]) (.seq (.ops [⟨(some 3), (.mov (.tmp 0)), none⟩, ⟨(some 4), (.call (.func 118) [(.tmp 3), (.const (.int .i64 1000))]), none⟩, ⟨(some 2), (.mov (.tmp 4)), none⟩]) .ret)), 5, [(.tmp 2)]⟩
theorem c115 : compileFn Go.Proofs.Tryd.prog Go.Proofs.Tryd.f115 = some R115 := by kernel_rfl
theorem n115 : R115.ntmps = 5 := rfl
theorem a115 {args : List Value} {H : AHeap} {Q : Value → AHeap → Prop} (h : AWP Go.Proofs.Tryd.prog none R115.code (Fin R115 Q) (args ++ List.replicate (R115.ntmps - args.length) undef) H) : ACall Go.Proofs.Tryd.prog 115 args H Q := acall_intro mo Go.Proofs.Tryd.func115 c115 h

def R116 : RFunc :=
  ⟨(.seq (.ops [⟨(some 2), (.mov (.const (.bool false))), none⟩]) (.seq (.ops [⟨(some 3), (.mov (.tmp 0)), none⟩, ⟨(some 4), (.call (.func 94) [(.tmp 3), (.const (.int .i64 1)), (.const (.int .i64 1000))]), none⟩, ⟨(some 2), (.mov (.tmp 4)), none⟩]) .ret)), 5, [(.tmp 2)]⟩
theorem c116 : compileFn Go.Proofs.Tryd.prog Go.Proofs.Tryd.f116 = some R116 := by kernel_rfl
theorem n116 : R116.ntmps = 5 := rfl
theorem a116 {args : List Value} {H : AHeap} {Q : Value → AHeap → Prop} (h : AWP Go.Proofs.Tryd.prog none R116.code (Fin R116 Q) (args ++ List.replicate (R116.ntmps - args.length) undef) H) : ACall Go.Proofs.Tryd.prog 116 args H Q := acall_intro mo Go.Proofs.Tryd.func116 c116 h

def R117 : RFunc :=
  ⟨(.seq (.ops [⟨(some 2), (.mov (.const (.int .i64 0))), none⟩]) (.seq (.draw [(⟨(some 3), (.mov (.tmp 0)), none⟩, false), (⟨(some 4), (.nilCheck (.tmp 3)), none⟩, false), (⟨(some 5), (.fieldAddr 0 (.tmp 4)), none⟩, false), (⟨(some 6), (.fieldAddr 0 (.tmp 5)), none⟩, false), (⟨(some 7), (.load (.tmp 6)), none⟩, false), (⟨(some 8), (.mov (.tmp 0)), none⟩, false), (⟨(some 9), (.nilCheck (.tmp 8)), none⟩, false), (⟨(some 10), (.fieldAddr 3 (.tmp 9)), none⟩, false), (⟨(some 11), (.load (.tmp 10)), none⟩, false), (⟨(some 12), (.arith .mul (.tmp 7) (.tmp 11)), none⟩, false), (⟨(some 13), (.mov (.tmp 0)), none⟩, false), (⟨(some 14), (.nilCheck (.tmp 13)), none⟩, false), (⟨(some 15), (.fieldAddr 0 (.tmp 14)), none⟩, false), (⟨(some 16), (.fieldAddr 1 (.tmp 15)), none⟩, false), (⟨(some 17), (.load (.tmp 16)), none⟩, false), (⟨(some 18), (.mov (.tmp 0)), none⟩, false), (⟨(some 19), (.nilCheck (.tmp 18)), none⟩, false), (⟨(some 20), (.fieldAddr 4 (.tmp 19)), none⟩, false), (⟨(some 21), (.load (.tmp 20)), none⟩, false), (⟨(some 22), (.arith .mul (.tmp 17) (.tmp 21)), none⟩, false), (⟨(some 23), (.arith .add (.tmp 12) (.tmp 22)), none⟩, false), (⟨(some 24), (.mov (.tmp 0)), none⟩, false), (⟨(some 25), (.nilCheck (.tmp 24)), none⟩, false), (⟨(some 26), (.fieldAddr 0 (.tmp 25)), none⟩, false), (⟨(some 27), (.fieldAddr 2 (.tmp 26)), none⟩, false), (⟨(some 28), (.load (.tmp 27)), none⟩, false), (⟨(some 29), (.call (.func 91) [(.tmp 23), (.tmp 28)]), none⟩, false), (⟨(some 2), (.mov (.tmp 29)), none⟩, false)]) .ret)), 30, [(.tmp 2)]⟩
theorem c117 : compileFn Go.Proofs.Tryd.prog Go.Proofs.Tryd.f117 = some R117 := by kernel_rfl
theorem n117 : R117.ntmps = 30 := rfl
theorem a117 {args : List Value} {H : AHeap} {Q : Value → AHeap → Prop} (h : AWP Go.Proofs.Tryd.prog none R117.code (Fin R117 Q) (args ++ List.replicate (R117.ntmps - args.length) undef) H) : ACall Go.Proofs.Tryd.prog 117 args H Q := acall_intro mo Go.Proofs.Tryd.func117 c117 h

def R118 : RFunc :=
  ⟨(.seq (.ops [⟨(some 4), (.mov (.const (.bool false))), none⟩]) (.seq (.ops [⟨(some 5), (.mov (.tmp 0)), none⟩, ⟨(some 6), (.mov (.tmp 1)), none⟩, ⟨(some 7), (.neg (.tmp 6)), none⟩, ⟨(some 8), (.mov (.tmp 1)), none⟩, ⟨(some 9), (.call (.func 94) [(.tmp 5), (.tmp 7), (.tmp 8)]), none⟩, ⟨(some 4), (.mov (.tmp 9)), none⟩]) .ret)), 10, [(.tmp 4)]⟩
theorem c118 : compileFn Go.Proofs.Tryd.prog Go.Proofs.Tryd.f118 = some R118 := by kernel_rfl
theorem n118 : R118.ntmps = 10 := rfl
theorem a118 {args : List Value} {H : AHeap} {Q : Value → AHeap → Prop} (h : AWP Go.Proofs.Tryd.prog none R118.code (Fin R118 Q) (args ++ List.replicate (R118.ntmps - args.length) undef) H) : ACall Go.Proofs.Tryd.prog 118 args H Q := acall_intro mo Go.Proofs.Tryd.func118 c118 h

def R119 : RFunc :=
  ⟨(.ops [⟨(some 4), (.mov (.tmp 0)), none⟩, ⟨(some 5), (.mov (.tmp 0)), none⟩, ⟨(some 6), (.mov (.tmp 1)), none⟩, ⟨(some 7), (.mov (.tmp 0)), none⟩, ⟨(some 8), (.nilCheck (.tmp 7)), none⟩, ⟨(some 9), (.fieldAddr 3 (.tmp 8)), none⟩, ⟨(some 10), (.load (.tmp 9)), none⟩, ⟨(some 11), (.nilCheck (.tmp 4)), none⟩, ⟨(some 12), (.fieldAddr 3 (.tmp 11)), none⟩, ⟨none, (.store 1 (.tmp 12) (.tmp 6)), none⟩, ⟨(some 13), (.nilCheck (.tmp 5)), none⟩, ⟨(some 14), (.fieldAddr 4 (.tmp 13)), none⟩, ⟨none, (.store 1 (.tmp 14) (.tmp 10)), none⟩]), 15, []⟩
theorem c119 : compileFn Go.Proofs.Tryd.prog Go.Proofs.Tryd.f119 = some R119 := by kernel_rfl
theorem n119 : R119.ntmps = 15 := rfl
theorem a119 {args : List Value} {H : AHeap} {Q : Value → AHeap → Prop} (h : AWP Go.Proofs.Tryd.prog none R119.code (Fin R119 Q) (args ++ List.replicate (R119.ntmps - args.length) undef) H) : ACall Go.Proofs.Tryd.prog 119 args H Q := acall_intro mo Go.Proofs.Tryd.func119 c119 h

def R120 : RFunc :=
  ⟨(.seq (.ops [⟨(some 2), (.mov (.const (.slice none 0 0))), none⟩]) (.seq (.seq (.ops [⟨(some 3), (.mov (.tmp 0)), none⟩, ⟨(some 4), (.eqv 2 false (.tmp 3) (.const (.slice none 0 0))), none⟩]) (.cond (.tmp 4) (.seq (.ops [⟨(some 2), (.mov (.const (.slice none 0 0))), none⟩]) .ret) .skip)) (.seq (.ops [⟨(some 5), (.buildSlice 1 0 [] []), none⟩, ⟨(some 6), (.mov (.tmp 0)), none⟩, ⟨(some 7), (.append 1 8 (.tmp 5) (.tmp 6)), none⟩, ⟨(some 2), (.mov (.tmp 7)), none⟩]) .ret))), 8, [(.tmp 2)]⟩
theorem c120 : compileFn Go.Proofs.Tryd.prog Go.Proofs.Tryd.f120 = some R120 := by kernel_rfl
theorem n120 : R120.ntmps = 8 := rfl
theorem a120 {args : List Value} {H : AHeap} {Q : Value → AHeap → Prop} (h : AWP Go.Proofs.Tryd.prog none R120.code (Fin R120 Q) (args ++ List.replicate (R120.ntmps - args.length) undef) H) : ACall Go.Proofs.Tryd.prog 120 args H Q := acall_intro mo Go.Proofs.Tryd.func120 c120 h

def R121 : RFunc :=
  ⟨(.seq (.ops [⟨(some 4), (.new [(.int .i64 0), (.int .i64 0)]), none⟩]) (.seq (.ops [⟨(some 6), (.mov (.tmp 0)), none⟩, ⟨(some 7), (.mov (.tmp 1)), none⟩, ⟨(some 8), (.call (.func 144) [(.tmp 6), (.tmp 7)]), none⟩, ⟨(some 5), (.mov (.tmp 8)), none⟩]) (.seq (.draw [(⟨(some 9), (.mov (.tmp 0)), none⟩, false), (⟨(some 10), (.mov (.tmp 5)), none⟩, false), (⟨(some 11), (.arith .quo (.tmp 9) (.tmp 10)), none⟩, false), (⟨(some 12), (.mov (.tmp 1)), none⟩, false), (⟨(some 13), (.mov (.tmp 5)), none⟩, false), (⟨(some 14), (.arith .quo (.tmp 12) (.tmp 13)), none⟩, false), (⟨(some 15), (.build [(.int .i64 0), (.int .i64 0)] [(0, (1, (.tmp 11))), (1, (1, (.tmp 14)))]), none⟩, false), (⟨none, (.store 2 (.tmp 4) (.tmp 15)), none⟩, false)]) .ret))), 16, [(.loadN 2 4)]⟩
theorem c121 : compileFn Go.Proofs.Tryd.prog Go.Proofs.Tryd.f121 = some R121 := by kernel_rfl
theorem n121 : R121.ntmps = 16 := rfl
theorem a121 {args : List Value} {H : AHeap} {Q : Value → AHeap → Prop} (h : AWP Go.Proofs.Tryd.prog none R121.code (Fin R121 Q) (args ++ List.replicate (R121.ntmps - args.length) undef) H) : ACall Go.Proofs.Tryd.prog 121 args H Q := acall_intro mo Go.Proofs.Tryd.func121 c121 h

def R122 : RFunc :=
  ⟨(.seq (.ops [⟨(some 4), (.mov (.const (.int .i64 0))), none⟩]) (.seq (.block 0 (.loop (.seq (.seq (.ops [⟨(some 5), (.mov (.tmp 1)), none⟩, ⟨(some 6), (.cmp .neq (.tmp 5) (.const (.int .i64 0))), none⟩]) (.cond (.tmp 6) .skip (.exit 0))) (.block 1 (.draw [(⟨(some 7), (.mov (.tmp 1)), none⟩, false), (⟨(some 8), (.mov (.tmp 0)), none⟩, false), (⟨(some 9), (.mov (.tmp 1)), none⟩, false), (⟨(some 10), (.arith .rem (.tmp 8) (.tmp 9)), none⟩, false), (⟨(some 0), (.mov (.tmp 7)), none⟩, false), (⟨(some 1), (.mov (.tmp 10)), none⟩, false)]))))) (.seq (.ops [⟨(some 11), (.mov (.tmp 0)), none⟩, ⟨(some 12), (.call (.func 35) [(.tmp 11)]), none⟩, ⟨(some 4), (.mov (.tmp 12)), none⟩]) .ret))), 13, [(.tmp 4)]⟩
theorem c122 : compileFn Go.Proofs.Tryd.prog Go.Proofs.Tryd.f122 = some R122 := by kernel_rfl
theorem n122 : R122.ntmps = 13 := rfl
theorem a122 {args : List Value} {H : AHeap} {Q : Value → AHeap → Prop} (h : AWP Go.Proofs.Tryd.prog none R122.code (Fin R122 Q) (args ++ List.replicate (R122.ntmps - args.length) undef) H) : ACall Go.Proofs.Tryd.prog 122 args H Q := acall_intro mo Go.Proofs.Tryd.func122 c122 h

def R123 : RFunc :=
  ⟨(.seq (.ops [⟨(some 2), (.new [(.int .i64 0), (.int .i64 0)]), none⟩]) (.seq (.ops [⟨(some 3), (.mov (.tmp 0)), none⟩, ⟨(some 4), (.build [(.int .i64 0), (.int .i64 0)] [(0, (1, (.tmp 3))), (1, (1, (.const (.int .i64 1))))]), none⟩, ⟨none, (.store 2 (.tmp 2) (.tmp 4)), none⟩]) .ret)), 5, [(.loadN 2 2)]⟩
theorem c123 : compileFn Go.Proofs.Tryd.prog Go.Proofs.Tryd.f123 = some R123 := by kernel_rfl
theorem n123 : R123.ntmps = 5 := rfl
theorem a123 {args : List Value} {H : AHeap} {Q : Value → AHeap → Prop} (h : AWP Go.Proofs.Tryd.prog none R123.code (Fin R123 Q) (args ++ List.replicate (R123.ntmps - args.length) undef) H) : ACall Go.Proofs.Tryd.prog 123 args H Q := acall_intro mo Go.Proofs.Tryd.func123 c123 h

def R124 : RFunc :=
  ⟨(.seq (.ops [⟨(some 2), (.box (.tmp 0)), none⟩, ⟨(some 3), (.box (.tmp 1)), none⟩, ⟨(some 4), (.mov (.const (.int .i64 0))), none⟩]) (.seq (.draw [(⟨(some 7), (.fieldAddr 0 (.tmp 2)), none⟩, false), (⟨(some 8), (.load (.tmp 7)), none⟩, false), (⟨(some 9), (.fieldAddr 1 (.tmp 3)), none⟩, false), (⟨(some 10), (.load (.tmp 9)), none⟩, false), (⟨(some 11), (.arith .mul (.tmp 8) (.tmp 10)), none⟩, false), (⟨(some 12), (.fieldAddr 0 (.tmp 3)), none⟩, false), (⟨(some 13), (.load (.tmp 12)), none⟩, false), (⟨(some 14), (.fieldAddr 1 (.tmp 2)), none⟩, false), (⟨(some 15), (.load (.tmp 14)), none⟩, false), (⟨(some 16), (.arith .mul (.tmp 13) (.tmp 15)), none⟩, false), (⟨(some 5), (.mov (.tmp 11)), none⟩, false), (⟨(some 6), (.mov (.tmp 16)), none⟩, false)]) (.seq (.seq (.ops [⟨(some 17), (.mov (.tmp 5)), none⟩, ⟨(some 18), (.mov (.tmp 6)), none⟩, ⟨(some 19), (.cmp .lss (.tmp 17) (.tmp 18)), none⟩]) (.cond (.tmp 19) (.seq (.ops [⟨(some 4), (.mov (.const (.int .i64 (-1)))), none⟩]) .ret) .skip)) (.seq (.seq (.ops [⟨(some 20), (.mov (.tmp 5)), none⟩, ⟨(some 21), (.mov (.tmp 6)), none⟩, ⟨(some 22), (.cmp .gtr (.tmp 20) (.tmp 21)), none⟩]) (.cond (.tmp 22) (.seq (.ops [⟨(some 4), (.mov (.const (.int .i64 1))), none⟩]) .ret) .skip)) (.seq (.ops [⟨(some 4), (.mov (.const (.int .i64 0))), none⟩]) .ret))))), 23, [(.tmp 4)]⟩
theorem c124 : compileFn Go.Proofs.Tryd.prog Go.Proofs.Tryd.f124 = some R124 := by kernel_rfl
theorem n124 : R124.ntmps = 23 := rfl
theorem a124 {args : List Value} {H : AHeap} {Q : Value → AHeap → Prop} (h : AWP Go.Proofs.Tryd.prog none R124.code (Fin R124 Q) (args ++ List.replicate (R124.ntmps - args.length) undef) H) : ACall Go.Proofs.Tryd.prog 124 args H Q := acall_intro mo Go.Proofs.Tryd.func124 c124 h

def R125 : RFunc :=
  ⟨(.seq (.ops [⟨(some 4), (.new [(.int .i64 0), (.int .i64 0)]), none⟩]) (.seq (.ops [⟨(some 6), (.mov (.tmp 0)), none⟩, ⟨(some 7), (.mov (.tmp 1)), none⟩, ⟨(some 8), (.call (.func 122) [(.tmp 6), (.tmp 7)]), none⟩, ⟨(some 5), (.mov (.tmp 8)), none⟩]) (.seq (.seq (.ops [⟨(some 9), (.mov (.tmp 1)), none⟩, ⟨(some 10), (.cmp .lss (.tmp 9) (.const (.int .i64 0))), none⟩]) (.cond (.tmp 10) (.ops [⟨(some 11), (.mov (.tmp 5)), none⟩, ⟨(some 12), (.neg (.tmp 11)), none⟩, ⟨(some 5), (.mov (.tmp 12)), none⟩]) .skip)) (.seq (.draw [(⟨(some 13), (.mov (.tmp 0)), none⟩, false), (⟨(some 14), (.mov (.tmp 5)), none⟩, false), (⟨(some 15), (.arith .quo (.tmp 13) (.tmp 14)), none⟩, false), (⟨(some 16), (.mov (.tmp 1)), none⟩, false), (⟨(some 17), (.mov (.tmp 5)), none⟩, false), (⟨(some 18), (.arith .quo (.tmp 16) (.tmp 17)), none⟩, false), (⟨(some 19), (.build [(.int .i64 0), (.int .i64 0)] [(0, (1, (.tmp 15))), (1, (1, (.tmp 18)))]), none⟩, false), (⟨none, (.store 2 (.tmp 4) (.tmp 19)), none⟩, false)]) .ret)))), 20, [(.loadN 2 4)]⟩
theorem c125 : compileFn Go.Proofs.Tryd.prog Go.Proofs.Tryd.f125 = some R125 := by kernel_rfl
theorem n125 : R125.ntmps = 20 := rfl
theorem a125 {args : List Value} {H : AHeap} {Q : Value → AHeap → Prop} (h : AWP Go.Proofs.Tryd.prog none R125.code (Fin R125 Q) (args ++ List.replicate (R125.ntmps - args.length) undef) H) : ACall Go.Proofs.Tryd.prog 125 args H Q := acall_intro mo Go.Proofs.Tryd.func125 c125 h

def R126 : RFunc :=
  ⟨(.seq (.ops [⟨(some 2), (.mov (.const (.bool false))), none⟩]) (.seq (.ops [⟨(some 3), (.mov (.tmp 0)), none⟩, ⟨(some 4), (.call (.func 118) [(.tmp 3), (.const (.int .i64 1000000000000000))]), none⟩, ⟨(some 5), (.not (.tmp 4)), none⟩, ⟨(some 2), (.mov (.tmp 5)), none⟩]) .ret)), 6, [(.tmp 2)]⟩
theorem c126 : compileFn Go.Proofs.Tryd.prog Go.Proofs.Tryd.f126 = some R126 := by kernel_rfl
theorem n126 : R126.ntmps = 6 := rfl
theorem a126 {args : List Value} {H : AHeap} {Q : Value → AHeap → Prop} (h : AWP Go.Proofs.Tryd.prog none R126.code (Fin R126 Q) (args ++ List.replicate (R126.ntmps - args.length) undef) H) : ACall Go.Proofs.Tryd.prog 126 args H Q := acall_intro mo Go.Proofs.Tryd.func126 c126 h

def R127 : RFunc :=
  ⟨(.seq (.ops [⟨(some 2), (.mov (.const (.bool false))), none⟩]) (.seq (.ops [⟨(some 3), (.mov (.tmp 0)), none⟩, ⟨(some 4), (.call (.func 30) [(.tmp 3), (.const (.int .i64 (-1000000000000000))), (.const (.int .i64 1000000000000000))]), none⟩, ⟨(some 2), (.mov (.tmp 4)), none⟩]) .ret)), 5, [(.tmp 2)]⟩
theorem c127 : compileFn Go.Proofs.Tryd.prog Go.Proofs.Tryd.f127 = some R127 := by kernel_rfl
theorem n127 : R127.ntmps = 5 := rfl
theorem a127 {args : List Value} {H : AHeap} {Q : Value → AHeap → Prop} (h : AWP Go.Proofs.Tryd.prog none R127.code (Fin R127 Q) (args ++ List.replicate (R127.ntmps - args.length) undef) H) : ACall Go.Proofs.Tryd.prog 127 args H Q := acall_intro mo Go.Proofs.Tryd.func127 c127 h

def R128 : RFunc :=
  ⟨(.seq (.ops [⟨(some 3), (.box (.tmp 0)), none⟩, ⟨(some 6), (.mov (.const (.int .i64 0))), none⟩]) (.seq (.ops [⟨(some 7), (.mov (.const (.int .i64 0))), none⟩, ⟨(some 8), (.mov (.const (.int .i64 0))), none⟩]) (.seq (.seq (.ops [⟨(some 9), (.mov (.tmp 2)), none⟩, ⟨(some 10), (.cmp .gtr (.tmp 9) (.const (.int .i64 0))), none⟩]) (.cond (.tmp 10) (.ops [⟨(some 11), (.mov (.tmp 1)), none⟩, ⟨(some 12), (.mov (.tmp 2)), none⟩, ⟨(some 13), (.arith .sub (.tmp 12) (.const (.int .i64 1))), none⟩, ⟨(some 14), (.idxAddr 1 (.tmp 11) (.tmp 13)), none⟩, ⟨(some 15), (.load (.tmp 14)), none⟩, ⟨(some 7), (.mov (.tmp 15)), none⟩]) .skip)) (.seq (.seq (.ops [⟨(some 16), (.mov (.tmp 2)), none⟩, ⟨(some 17), (.cmp .gtr (.tmp 16) (.const (.int .i64 1))), none⟩]) (.cond (.tmp 17) (.ops [⟨(some 18), (.mov (.tmp 1)), none⟩, ⟨(some 19), (.mov (.tmp 2)), none⟩, ⟨(some 20), (.arith .sub (.tmp 19) (.const (.int .i64 2))), none⟩, ⟨(some 21), (.idxAddr 1 (.tmp 18) (.tmp 20)), none⟩, ⟨(some 22), (.load (.tmp 21)), none⟩, ⟨(some 8), (.mov (.tmp 22)), none⟩]) .skip)) (.seq (.ops [⟨(some 23), (.fieldAddr 0 (.tmp 3)), none⟩, ⟨(some 24), (.load (.tmp 23)), none⟩, ⟨(some 25), (.mov (.tmp 7)), none⟩, ⟨(some 26), (.arith .mul (.tmp 24) (.tmp 25)), none⟩, ⟨(some 27), (.fieldAddr 1 (.tmp 3)), none⟩, ⟨(some 28), (.load (.tmp 27)), none⟩, ⟨(some 29), (.mov (.tmp 8)), none⟩, ⟨(some 30), (.arith .mul (.tmp 28) (.tmp 29)), none⟩, ⟨(some 31), (.arith .add (.tmp 26) (.tmp 30)), none⟩, ⟨(some 32), (.fieldAddr 2 (.tmp 3)), none⟩, ⟨(some 33), (.load (.tmp 32)), none⟩, ⟨(some 34), (.call (.func 54) [(.tmp 31), (.tmp 33)]), none⟩, ⟨(some 6), (.mov (.tmp 34)), none⟩]) .ret))))), 35, [(.tmp 6)]⟩
theorem c128 : compileFn Go.Proofs.Tryd.prog Go.Proofs.Tryd.f128 = some R128 := by kernel_rfl
theorem n128 : R128.ntmps = 35 := rfl
theorem a128 {args : List Value} {H : AHeap} {Q : Value → AHeap → Prop} (h : AWP Go.Proofs.Tryd.prog none R128.code (Fin R128 Q) (args ++ List.replicate (R128.ntmps - args.length) undef) H) : ACall Go.Proofs.Tryd.prog 128 args H Q := acall_intro mo Go.Proofs.Tryd.func128 c128 h

def R129 : RFunc :=
  ⟨(.seq (.ops [⟨(some 2), (.mov (.const (.int .i64 0))), none⟩]) (.seq (.block 0 (.seq (.ops [⟨(some 4), (.mov (.tmp 0)), none⟩, ⟨(some 5), (.cmp .lss (.tmp 4) (.const (.int .i64 0))), none⟩, ⟨(some 3), (.mov (.tmp 5)), none⟩]) (.cond (.tmp 3) (.seq (.ops [⟨(some 2), (.mov (.const (.int .i64 (-1)))), none⟩]) .ret) (.seq (.ops [⟨(some 7), (.mov (.tmp 0)), none⟩, ⟨(some 8), (.cmp .gtr (.tmp 7) (.const (.int .i64 0))), none⟩, ⟨(some 6), (.mov (.tmp 8)), none⟩]) (.cond (.tmp 6) (.seq (.ops [⟨(some 2), (.mov (.const (.int .i64 1))), none⟩]) .ret) .skip))))) (.seq (.ops [⟨(some 2), (.mov (.const (.int .i64 0))), none⟩]) .ret))), 9, [(.tmp 2)]⟩
theorem c129 : compileFn Go.Proofs.Tryd.prog Go.Proofs.Tryd.f129 = some R129 := by kernel_rfl
theorem n129 : R129.ntmps = 9 := rfl
theorem a129 {args : List Value} {H : AHeap} {Q : Value → AHeap → Prop} (h : AWP Go.Proofs.Tryd.prog none R129.code (Fin R129 Q) (args ++ List.replicate (R129.ntmps - args.length) undef) H) : ACall Go.Proofs.Tryd.prog 129 args H Q := acall_intro mo Go.Proofs.Tryd.func129 c129 h

def R130 : RFunc :=
  ⟨(.seq (.ops [⟨(some 1), (.box (.tmp 0)), none⟩, ⟨(some 2), (.mov (.const .nilFunc)), none⟩]) (.seq (.ops [⟨(some 3), (.mkFunc (.func 145) [] [(.tmp 1)]), none⟩, ⟨(some 2), (.mov (.tmp 3)), none⟩]) .ret)), 4, [(.tmp 2)]⟩
theorem c130 : compileFn Go.Proofs.Tryd.prog Go.Proofs.Tryd.f130 = some R130 := by kernel_rfl
theorem n130 : R130.ntmps = 4 := rfl
theorem a130 {args : List Value} {H : AHeap} {Q : Value → AHeap → Prop} (h : AWP Go.Proofs.Tryd.prog none R130.code (Fin R130 Q) (args ++ List.replicate (R130.ntmps - args.length) undef) H) : ACall Go.Proofs.Tryd.prog 130 args H Q := acall_intro mo Go.Proofs.Tryd.func130 c130 h

def R131 : RFunc :=
  ⟨(.seq (.ops [⟨(some 2), (.mov (.const (.bool false))), none⟩]) (.seq (.ops [⟨(some 3), (.mov (.tmp 0)), none⟩, ⟨(some 4), (.call (.func 118) [(.tmp 3), (.const (.int .i64 32767))]), none⟩, ⟨(some 5), (.not (.tmp 4)), none⟩, ⟨(some 2), (.mov (.tmp 5)), none⟩]) .ret)), 6, [(.tmp 2)]⟩
theorem c131 : compileFn Go.Proofs.Tryd.prog Go.Proofs.Tryd.f131 = some R131 := by kernel_rfl
theorem n131 : R131.ntmps = 6 := rfl
theorem a131 {args : List Value} {H : AHeap} {Q : Value → AHeap → Prop} (h : AWP Go.Proofs.Tryd.prog none R131.code (Fin R131 Q) (args ++ List.replicate (R131.ntmps - args.length) undef) H) : ACall Go.Proofs.Tryd.prog 131 args H Q := acall_intro mo Go.Proofs.Tryd.func131 c131 h

def R132 : RFunc :=
  ⟨(.seq (.ops [⟨(some 1), (.box (.tmp 0)), none⟩, ⟨(some 2), (.mov (.const .nilFunc)), none⟩]) (.seq (.seq (.ops [⟨(some 4), (.fieldAddr 0 (.tmp 1)), none⟩, ⟨(some 5), (.load (.tmp 4)), none⟩, ⟨(some 6), (.cmp .eql (.tmp 5) (.const (.int .i64 0))), none⟩]) (.cond (.tmp 6) (.seq (.ops [⟨(some 7), (.mkFunc (.func 146) [] [(.tmp 1)]), none⟩, ⟨(some 2), (.mov (.tmp 7)), none⟩]) .ret) .skip)) (.seq (.ops [⟨(some 8), (.fieldAddr 5 (.tmp 1)), none⟩, ⟨(some 9), (.fieldAddr 0 (.tmp 8)), none⟩, ⟨(some 10), (.load (.tmp 9)), none⟩, ⟨(some 3), (.new [(.slice none 0 0)]), none⟩, ⟨none, (.store 1 (.tmp 3) (.tmp 10)), none⟩]) (.seq (.ops [⟨(some 11), (.mkFunc (.func 147) [] [(.tmp 3), (.tmp 1)]), none⟩, ⟨(some 2), (.mov (.tmp 11)), none⟩]) .ret)))), 12, [(.tmp 2)]⟩
theorem c132 : compileFn Go.Proofs.Tryd.prog Go.Proofs.Tryd.f132 = some R132 := by kernel_rfl
theorem n132 : R132.ntmps = 12 := rfl
theorem a132 {args : List Value} {H : AHeap} {Q : Value → AHeap → Prop} (h : AWP Go.Proofs.Tryd.prog none R132.code (Fin R132 Q) (args ++ List.replicate (R132.ntmps - args.length) undef) H) : ACall Go.Proofs.Tryd.prog 132 args H Q := acall_intro mo Go.Proofs.Tryd.func132 c132 h

def R133 : RFunc :=
  ⟨(.seq (.ops [⟨(some 2), (.mov (.const (.int .i64 0))), none⟩]) (.seq (.seq (.ops [⟨(some 5), (.mov (.tmp 0)), none⟩, ⟨(some 6), (.len (.tmp 5)), none⟩, ⟨(some 7), (.mov (.const (.int .i64 0))), none⟩]) (.block 0 (.loop (.seq (.ops [⟨(some 8), (.cmp .lss (.tmp 7) (.tmp 6)), none⟩]) (.seq (.cond (.tmp 8) .skip (.exit 0)) (.seq (.block 1 (.seq (.ops [⟨(some 9), (.idxAddr 1 (.tmp 5) (.tmp 7)), none⟩, ⟨(some 10), (.load (.tmp 9)), none⟩, ⟨(some 4), (.mov (.tmp 10)), none⟩]) (.seq (.ops [⟨(some 11), (.mov (.tmp 4)), none⟩, ⟨(some 12), (.cmp .neq (.tmp 11) (.const (.int .i64 0))), none⟩]) (.cond (.tmp 12) (.seq (.ops [⟨(some 13), (.mov (.tmp 4)), none⟩, ⟨(some 2), (.mov (.tmp 13)), none⟩]) .ret) .skip)))) (.ops [⟨(some 14), (.arith .add (.tmp 7) (.const (.int .i64 1))), none⟩, ⟨(some 7), (.mov (.tmp 14)), none⟩]))))))) (.seq (.ops [⟨(some 2), (.mov (.const (.int .i64 0))), none⟩]) .ret))), 15, [(.tmp 2)]⟩
theorem c133 : compileFn Go.Proofs.Tryd.prog Go.Proofs.Tryd.f133 = some R133 := by kernel_rfl
theorem n133 : R133.ntmps = 15 := rfl
theorem a133 {args : List Value} {H : AHeap} {Q : Value → AHeap → Prop} (h : AWP Go.Proofs.Tryd.prog none R133.code (Fin R133 Q) (args ++ List.replicate (R133.ntmps - args.length) undef) H) : ACall Go.Proofs.Tryd.prog 133 args H Q := acall_intro mo Go.Proofs.Tryd.func133 c133 h

def R134 : RFunc :=
  ⟨(.seq (.ops [⟨(some 4), (.mov (.const (.int .i64 0))), none⟩]) (.seq (.seq (.ops [⟨(some 5), (.mov (.tmp 0)), none⟩]) (.cond (.tmp 5) (.seq (.ops [⟨(some 4), (.mov (.const (.int .i64 0))), none⟩]) .ret) .skip)) (.seq (.ops [⟨(some 6), (.mov (.tmp 1)), none⟩, ⟨(some 4), (.mov (.tmp 6)), none⟩]) .ret))), 7, [(.tmp 4)]⟩
theorem c134 : compileFn Go.Proofs.Tryd.prog Go.Proofs.Tryd.f134 = some R134 := by kernel_rfl
theorem n134 : R134.ntmps = 7 := rfl
theorem a134 {args : List Value} {H : AHeap} {Q : Value → AHeap → Prop} (h : AWP Go.Proofs.Tryd.prog none R134.code (Fin R134 Q) (args ++ List.replicate (R134.ntmps - args.length) undef) H) : ACall Go.Proofs.Tryd.prog 134 args H Q := acall_intro mo Go.Proofs.Tryd.func134 c134 h

def R135 : RFunc :=
  ⟨(.seq (.ops [⟨(some 2), (.mov (.const (.bool false))), none⟩]) (.seq (.ops [⟨(some 3), (.mov (.tmp 0)), none⟩, ⟨(some 4), (.call (.func 141) [(.tmp 3), (.const (.int .i64 0)), (.const (.int .i64 1000000))]), none⟩, ⟨(some 2), (.mov (.tmp 4)), none⟩]) .ret)), 5, [(.tmp 2)]⟩
theorem c135 : compileFn Go.Proofs.Tryd.prog Go.Proofs.Tryd.f135 = some R135 := by kernel_rfl
theorem n135 : R135.ntmps = 5 := rfl
theorem a135 {args : List Value} {H : AHeap} {Q : Value → AHeap → Prop} (h : AWP Go.Proofs.Tryd.prog none R135.code (Fin R135 Q) (args ++ List.replicate (R135.ntmps - args.length) undef) H) : ACall Go.Proofs.Tryd.prog 135 args H Q := acall_intro mo Go.Proofs.Tryd.func135 c135 h

def R136 : RFunc :=
  ⟨(.seq (.ops [⟨(some 2), (.mov (.const (.bool false))), none⟩]) (.seq (.ops [⟨(some 3), (.mov (.tmp 0)), none⟩, ⟨(some 4), (.call (.func 141) [(.tmp 3), (.const (.int .i64 0)), (.const (.int .i64 1000000000000))]), none⟩, ⟨(some 2), (.mov (.tmp 4)), none⟩]) .ret)), 5, [(.tmp 2)]⟩
theorem c136 : compileFn Go.Proofs.Tryd.prog Go.Proofs.Tryd.f136 = some R136 := by kernel_rfl
theorem n136 : R136.ntmps = 5 := rfl
theorem a136 {args : List Value} {H : AHeap} {Q : Value → AHeap → Prop} (h : AWP Go.Proofs.Tryd.prog none R136.code (Fin R136 Q) (args ++ List.replicate (R136.ntmps - args.length) undef) H) : ACall Go.Proofs.Tryd.prog 136 args H Q := acall_intro mo Go.Proofs.Tryd.func136 c136 h

def R137 : RFunc :=
  ⟨(.seq (.ops [⟨(some 2), (.mov (.const (.bool false))), none⟩]) (.seq (.ops [⟨(some 3), (.mov (.tmp 0)), none⟩, ⟨(some 4), (.call (.func 30) [(.tmp 3), (.const (.int .i64 0)), (.const (.int .i64 1000000))]), none⟩, ⟨(some 2), (.mov (.tmp 4)), none⟩]) .ret)), 5, [(.tmp 2)]⟩
theorem c137 : compileFn Go.Proofs.Tryd.prog Go.Proofs.Tryd.f137 = some R137 := by kernel_rfl
theorem n137 : R137.ntmps = 5 := rfl
theorem a137 {args : List Value} {H : AHeap} {Q : Value → AHeap → Prop} (h : AWP Go.Proofs.Tryd.prog none R137.code (Fin R137 Q) (args ++ List.replicate (R137.ntmps - args.length) undef) H) : ACall Go.Proofs.Tryd.prog 137 args H Q := acall_intro mo Go.Proofs.Tryd.func137 c137 h

def R138 : RFunc :=
  ⟨(.seq (.ops [⟨(some 2), (.mov (.const (.bool false))), none⟩]) (.seq (.ops [⟨(some 3), (.mov (.tmp 0)), none⟩, ⟨(some 4), (.call (.func 30) [(.tmp 3), (.const (.int .i64 0)), (.const (.int .i64 1000000000000))]), none⟩, ⟨(some 2), (.mov (.tmp 4)), none⟩]) .ret)), 5, [(.tmp 2)]⟩
theorem c138 : compileFn Go.Proofs.Tryd.prog Go.Proofs.Tryd.f138 = some R138 := by kernel_rfl
theorem n138 : R138.ntmps = 5 := rfl
theorem a138 {args : List Value} {H : AHeap} {Q : Value → AHeap → Prop} (h : AWP Go.Proofs.Tryd.prog none R138.code (Fin R138 Q) (args ++ List.replicate (R138.ntmps - args.length) undef) H) : ACall Go.Proofs.Tryd.prog 138 args H Q := acall_intro mo Go.Proofs.Tryd.func138 c138 h

def R139 : RFunc :=
  ⟨(.seq (.ops [⟨(some 2), (.box (.tmp 0)), none⟩, ⟨(some 3), (.box (.tmp 1)), none⟩, ⟨(some 4), (.new [(.int .i64 0), (.int .i64 0), (.int .i64 0), (.int .i64 0)]), none⟩, ⟨(some 5), (.new [(.bool false)]), none⟩]) (.seq (.seq (.ops [⟨(some 8), (.loadN 1 (.tmp 2)), none⟩, ⟨(some 9), (.call (.func 149) [(.tmp 8)]), none⟩]) (.block 0 (.rangeFunc (.tmp 9) [10, 11] (.ops [⟨(some 7), (.new [(.int .i64 0), (.int .i64 0), (.int .i64 0), (.int .i64 0)]), none⟩, ⟨none, (.store 4 (.tmp 7) (.tmp 11)), none⟩]) (.block 1 (.seq (.ops [⟨(some 12), (.load (.tmp 3)), none⟩, ⟨(some 13), (.loadN 4 (.tmp 7)), none⟩, ⟨(some 14), (.call (.tmp 12) [(.tmp 13)]), none⟩]) (.cond (.tmp 14) (.seq (.ops [⟨(some 15), (.loadN 4 (.tmp 7)), none⟩, ⟨none, (.store 4 (.tmp 4) (.tmp 15)), none⟩, ⟨none, (.store 1 (.tmp 5) (.const (.bool true))), none⟩]) .ret) .skip)))))) (.seq (.ops [⟨(some 16), (.build [(.int .i64 0), (.int .i64 0), (.int .i64 0), (.int .i64 0)] []), none⟩, ⟨none, (.store 4 (.tmp 4) (.tmp 16)), none⟩, ⟨none, (.store 1 (.tmp 5) (.const (.bool false))), none⟩]) .ret))), 17, [(.loadN 4 4), (.load 5)]⟩
theorem c139 : compileFn Go.Proofs.Tryd.prog Go.Proofs.Tryd.f139 = some R139 := by kernel_rfl
theorem n139 : R139.ntmps = 17 := rfl
theorem a139 {args : List Value} {H : AHeap} {Q : Value → AHeap → Prop} (h : AWP Go.Proofs.Tryd.prog none R139.code (Fin R139 Q) (args ++ List.replicate (R139.ntmps - args.length) undef) H) : ACall Go.Proofs.Tryd.prog 139 args H Q := acall_intro mo Go.Proofs.Tryd.func139 c139 h

def R141 : RFunc :=
  ⟨(.seq (.ops [⟨(some 6), (.mov (.const (.bool false))), none⟩]) (.seq (.ops [⟨(some 7), (.mov (.tmp 1)), none⟩, ⟨(some 8), (.mov (.tmp 0)), none⟩, ⟨(some 9), (.cmp .leq (.tmp 7) (.tmp 8)), none⟩, ⟨(some 10), (.mov (.tmp 9)), none⟩, ⟨(some 11), (.mov (.tmp 0)), (some (10, true))⟩, ⟨(some 12), (.mov (.tmp 2)), (some (10, true))⟩, ⟨(some 13), (.cmp .leq (.tmp 11) (.tmp 12)), (some (10, true))⟩, ⟨(some 14), (.pick (.tmp 10) (.tmp 13) (.const (.bool false))), none⟩, ⟨(some 6), (.mov (.tmp 14)), none⟩]) .ret)), 15, [(.tmp 6)]⟩
theorem c141 : compileFn Go.Proofs.Tryd.prog Go.Proofs.Tryd.f141 = some R141 := by kernel_rfl
theorem n141 : R141.ntmps = 15 := rfl
theorem a141 {args : List Value} {H : AHeap} {Q : Value → AHeap → Prop} (h : AWP Go.Proofs.Tryd.prog none R141.code (Fin R141 Q) (args ++ List.replicate (R141.ntmps - args.length) undef) H) : ACall Go.Proofs.Tryd.prog 141 args H Q := acall_intro mo Go.Proofs.Tryd.func141 c141 h

def R142 : RFunc :=
  ⟨(.seq (.ops [⟨(some 1), (.box (.tmp 0)), none⟩, ⟨(some 2), (.mov (.const (.int .i64 0))), none⟩]) (.seq (.ops [⟨(some 3), (.fieldAddr 2 (.tmp 1)), none⟩, ⟨(some 4), (.fieldAddr 1 (.tmp 3)), none⟩, ⟨(some 5), (.load (.tmp 4)), none⟩, ⟨(some 6), (.fieldAddr 0 (.tmp 1)), none⟩, ⟨(some 7), (.fieldAddr 1 (.tmp 6)), none⟩, ⟨(some 8), (.load (.tmp 7)), none⟩, ⟨(some 9), (.arith .sub (.tmp 5) (.tmp 8)), none⟩, ⟨(some 2), (.mov (.tmp 9)), none⟩]) .ret)), 10, [(.tmp 2)]⟩
theorem c142 : compileFn Go.Proofs.Tryd.prog Go.Proofs.Tryd.f142 = some R142 := by kernel_rfl
theorem n142 : R142.ntmps = 10 := rfl
theorem a142 {args : List Value} {H : AHeap} {Q : Value → AHeap → Prop} (h : AWP Go.Proofs.Tryd.prog none R142.code (Fin R142 Q) (args ++ List.replicate (R142.ntmps - args.length) undef) H) : ACall Go.Proofs.Tryd.prog 142 args H Q := acall_intro mo Go.Proofs.Tryd.func142 c142 h

def R143 : RFunc :=
  ⟨(.seq (.ops [⟨(some 4), (.mov (.const (.int .i64 0))), none⟩]) (.seq (.seq (.ops [⟨(some 6), (.mov (.tmp 0)), none⟩, ⟨(some 7), (.len (.tmp 6)), none⟩, ⟨(some 8), (.mov (.const (.int .i64 0))), none⟩]) (.block 0 (.loop (.seq (.ops [⟨(some 9), (.cmp .lss (.tmp 8) (.tmp 7)), none⟩]) (.seq (.cond (.tmp 9) .skip (.exit 0)) (.seq (.block 1 (.seq (.ops [⟨(some 10), (.mov (.tmp 8)), none⟩, ⟨(some 5), (.mov (.tmp 10)), none⟩]) (.seq (.ops [⟨(some 11), (.mov (.tmp 1)), none⟩, ⟨(some 12), (.mov (.tmp 0)), none⟩, ⟨(some 13), (.mov (.tmp 5)), none⟩, ⟨(some 14), (.idxAddr 1 (.tmp 12) (.tmp 13)), none⟩, ⟨(some 15), (.load (.tmp 14)), none⟩, ⟨(some 16), (.call (.tmp 11) [(.tmp 15)]), none⟩]) (.cond (.tmp 16) (.seq (.ops [⟨(some 17), (.mov (.tmp 5)), none⟩, ⟨(some 4), (.mov (.tmp 17)), none⟩]) .ret) .skip)))) (.ops [⟨(some 18), (.arith .add (.tmp 8) (.const (.int .i64 1))), none⟩, ⟨(some 8), (.mov (.tmp 18)), none⟩]))))))) (.seq (.ops [⟨(some 4), (.mov (.const (.int .i64 (-1)))), none⟩]) .ret))), 19, [(.tmp 4)]⟩
theorem c143 : compileFn Go.Proofs.Tryd.prog Go.Proofs.Tryd.f143 = some R143 := by kernel_rfl
theorem n143 : R143.ntmps = 19 := rfl
theorem a143 {args : List Value} {H : AHeap} {Q : Value → AHeap → Prop} (h : AWP Go.Proofs.Tryd.prog none R143.code (Fin R143 Q) (args ++ List.replicate (R143.ntmps - args.length) undef) H) : ACall Go.Proofs.Tryd.prog 143 args H Q := acall_intro mo Go.Proofs.Tryd.func143 c143 h

def R144 : RFunc :=
  ⟨(.seq (.ops [⟨(some 4), (.mov (.const (.int .i64 0))), none⟩]) (.seq (.block 0 (.loop (.seq (.seq (.ops [⟨(some 5), (.mov (.tmp 1)), none⟩, ⟨(some 6), (.cmp .neq (.tmp 5) (.const (.int .i64 0))), none⟩]) (.cond (.tmp 6) .skip (.exit 0))) (.block 1 (.draw [(⟨(some 7), (.mov (.tmp 1)), none⟩, false), (⟨(some 8), (.mov (.tmp 0)), none⟩, false), (⟨(some 9), (.mov (.tmp 1)), none⟩, false), (⟨(some 10), (.arith .rem (.tmp 8) (.tmp 9)), none⟩, false), (⟨(some 0), (.mov (.tmp 7)), none⟩, false), (⟨(some 1), (.mov (.tmp 10)), none⟩, false)]))))) (.seq (.ops [⟨(some 11), (.mov (.tmp 0)), none⟩, ⟨(some 12), (.mov (.tmp 0)), none⟩, ⟨(some 13), (.neg (.tmp 12)), none⟩, ⟨(some 14), (.most true (.tmp 11) [(.tmp 13)]), none⟩, ⟨(some 4), (.mov (.tmp 14)), none⟩]) .ret))), 15, [(.tmp 4)]⟩
theorem c144 : compileFn Go.Proofs.Tryd.prog Go.Proofs.Tryd.f144 = some R144 := by kernel_rfl
theorem n144 : R144.ntmps = 15 := rfl
theorem a144 {args : List Value} {H : AHeap} {Q : Value → AHeap → Prop} (h : AWP Go.Proofs.Tryd.prog none R144.code (Fin R144 Q) (args ++ List.replicate (R144.ntmps - args.length) undef) H) : ACall Go.Proofs.Tryd.prog 144 args H Q := acall_intro mo Go.Proofs.Tryd.func144 c144 h

def R145 : RFunc :=
  ⟨(.seq (.ops [⟨(some 4), (.load (.tmp 1)), none⟩, ⟨(some 5), (.len (.tmp 4)), none⟩, ⟨(some 6), (.arith .sub (.tmp 5) (.const (.int .i64 1))), none⟩, ⟨(some 3), (.mov (.tmp 6)), none⟩]) (.block 0 (.loop (.seq (.seq (.ops [⟨(some 7), (.mov (.tmp 3)), none⟩, ⟨(some 8), (.cmp .geq (.tmp 7) (.const (.int .i64 0))), none⟩]) (.cond (.tmp 8) .skip (.exit 0))) (.seq (.block 1 (.seq (.ops [⟨(some 11), (.mov (.tmp 0)), none⟩, ⟨(some 12), (.mov (.tmp 3)), none⟩, ⟨(some 13), (.load (.tmp 1)), none⟩, ⟨(some 14), (.mov (.tmp 3)), none⟩, ⟨(some 15), (.idxAddr 1 (.tmp 13) (.tmp 14)), none⟩, ⟨(some 16), (.load (.tmp 15)), none⟩, ⟨(some 17), (.call (.tmp 11) [(.tmp 12), (.tmp 16)]), none⟩, ⟨(some 18), (.not (.tmp 17)), none⟩]) (.cond (.tmp 18) .ret .skip))) (.ops [⟨(some 9), (.mov (.tmp 3)), none⟩, ⟨(some 10), (.arith .sub (.tmp 9) (.const (.int .i64 1))), none⟩, ⟨(some 3), (.mov (.tmp 10)), none⟩])))))), 19, []⟩
theorem c145 : compileFn Go.Proofs.Tryd.prog Go.Proofs.Tryd.f145 = some R145 := by kernel_rfl
theorem n145 : R145.ntmps = 19 := rfl
theorem a145 {args : List Value} {H : AHeap} {Q : Value → AHeap → Prop} (h : AWP Go.Proofs.Tryd.prog none R145.code (Fin R145 Q) (args ++ List.replicate (R145.ntmps - args.length) undef) H) : ACall Go.Proofs.Tryd.prog 145 args H Q := acall_intro mo Go.Proofs.Tryd.func145 c145 h

def R146 : RFunc :=
  ⟨(.seq (.ops [⟨(some 3), (.mov (.const (.int .i64 0))), none⟩]) (.block 0 (.loop (.seq (.seq (.ops [⟨(some 4), (.mov (.tmp 0)), none⟩, ⟨(some 5), (.mov (.tmp 3)), none⟩, ⟨(some 6), (.arith .mul (.const (.int .i64 64)) (.tmp 5)), none⟩, ⟨(some 7), (.fieldAddr 2 (.tmp 1)), none⟩, ⟨(some 8), (.load (.tmp 7)), none⟩, ⟨(some 9), (.arith .mul (.tmp 6) (.tmp 8)), none⟩, ⟨(some 10), (.fieldAddr 3 (.tmp 1)), none⟩, ⟨(some 11), (.load (.tmp 10)), none⟩, ⟨(some 12), (.arith .quo (.tmp 9) (.tmp 11)), none⟩, ⟨(some 13), (.call (.tmp 4) [(.tmp 12)]), none⟩]) (.cond (.tmp 13) .skip (.exit 0))) (.seq (.block 1 .skip) (.ops [⟨(some 14), (.mov (.tmp 3)), none⟩, ⟨(some 15), (.arith .add (.tmp 14) (.const (.int .i64 1))), none⟩, ⟨(some 3), (.mov (.tmp 15)), none⟩])))))), 16, []⟩
theorem c146 : compileFn Go.Proofs.Tryd.prog Go.Proofs.Tryd.f146 = some R146 := by kernel_rfl
theorem n146 : R146.ntmps = 16 := rfl
theorem a146 {args : List Value} {H : AHeap} {Q : Value → AHeap → Prop} (h : AWP Go.Proofs.Tryd.prog none R146.code (Fin R146 Q) (args ++ List.replicate (R146.ntmps - args.length) undef) H) : ACall Go.Proofs.Tryd.prog 146 args H Q := acall_intro mo Go.Proofs.Tryd.func146 c146 h

def R147 : RFunc :=
  ⟨(.seq (.ops [⟨(some 7), (.load (.tmp 1)), none⟩, ⟨(some 8), (.idxAddr 2 (.tmp 7) (.const (.int .i64 0))), none⟩, ⟨(some 9), (.fieldAddr 1 (.tmp 8)), none⟩, ⟨(some 10), (.load (.tmp 9)), none⟩, ⟨(some 4), (.mov (.tmp 10)), none⟩]) (.block 0 (.loop (.seq (.seq (.ops [⟨(some 11), (.mov (.tmp 4)), none⟩, ⟨(some 12), (.load (.tmp 1)), none⟩, ⟨(some 13), (.load (.tmp 1)), none⟩, ⟨(some 14), (.len (.tmp 13)), none⟩, ⟨(some 15), (.arith .sub (.tmp 14) (.const (.int .i64 1))), none⟩, ⟨(some 16), (.idxAddr 2 (.tmp 12) (.tmp 15)), none⟩, ⟨(some 17), (.fieldAddr 1 (.tmp 16)), none⟩, ⟨(some 18), (.load (.tmp 17)), none⟩, ⟨(some 19), (.cmp .leq (.tmp 11) (.tmp 18)), none⟩]) (.cond (.tmp 19) .skip (.exit 0))) (.seq (.block 1 (.seq (.ops [⟨(some 25), (.fieldAddr 5 (.tmp 2)), none⟩, ⟨(some 26), (.loadN 1 (.tmp 25)), none⟩, ⟨(some 27), (.mov (.tmp 4)), none⟩, ⟨(some 28), (.call (.func 148) [(.tmp 26), (.tmp 27)]), none⟩, ⟨(some 24), (.mov (.tmp 28)), none⟩, ⟨(some 29), (.extract (.tmp 24) 0), none⟩, ⟨(some 30), (.extract (.tmp 24) 1), none⟩, ⟨(some 5), (.new [(.int .i64 0), (.int .i64 0)]), none⟩, ⟨none, (.store 2 (.tmp 5) (.tmp 29)), none⟩, ⟨(some 6), (.mov (.tmp 30)), none⟩]) (.seq (.ops [⟨(some 31), (.mov (.tmp 6)), none⟩, ⟨(some 32), (.cmp .neq (.tmp 31) (.const (.int .i64 0))), none⟩, ⟨(some 33), (.mov (.tmp 32)), none⟩, ⟨(some 34), (.mov (.tmp 0)), (some (33, false))⟩, ⟨(some 35), (.fieldAddr 0 (.tmp 5)), (some (33, false))⟩, ⟨(some 36), (.load (.tmp 35)), (some (33, false))⟩, ⟨(some 37), (.call (.tmp 34) [(.tmp 36)]), (some (33, false))⟩, ⟨(some 38), (.not (.tmp 37)), (some (33, false))⟩, ⟨(some 39), (.pick (.tmp 33) (.const (.bool true)) (.tmp 38)), none⟩]) (.cond (.tmp 39) .ret .skip)))) (.ops [⟨(some 20), (.mov (.tmp 4)), none⟩, ⟨(some 21), (.fieldAddr 4 (.tmp 2)), none⟩, ⟨(some 22), (.load (.tmp 21)), none⟩, ⟨(some 23), (.arith .add (.tmp 20) (.tmp 22)), none⟩, ⟨(some 4), (.mov (.tmp 23)), none⟩])))))), 40, []⟩
theorem c147 : compileFn Go.Proofs.Tryd.prog Go.Proofs.Tryd.f147 = some R147 := by kernel_rfl
theorem n147 : R147.ntmps = 40 := rfl
theorem a147 {args : List Value} {H : AHeap} {Q : Value → AHeap → Prop} (h : AWP Go.Proofs.Tryd.prog none R147.code (Fin R147 Q) (args ++ List.replicate (R147.ntmps - args.length) undef) H) : ACall Go.Proofs.Tryd.prog 147 args H Q := acall_intro mo Go.Proofs.Tryd.func147 c147 h

def R148 : RFunc :=
  ⟨(.seq (.ops [⟨(some 2), (.box (.tmp 0)), none⟩, ⟨(some 3), (.box (.tmp 1)), none⟩, ⟨(some 4), (.new [(.int .i64 0), (.int .i64 0)]), none⟩, ⟨(some 5), (.mov (.const (.int .i64 0))), none⟩]) (.seq (.seq (.ops [⟨(some 14), (.loadN 1 (.tmp 2)), none⟩, ⟨(some 15), (.buildSlice 1 1 [(.slice none 0 0)] [(0, (1, (.tmp 14)))]), none⟩, ⟨(some 16), (.call (.func 106) [(.tmp 15)]), none⟩, ⟨(some 6), (.mov (.tmp 16)), none⟩]) (.seq (.ops [⟨(some 17), (.mov (.tmp 6)), none⟩, ⟨(some 18), (.cmp .neq (.tmp 17) (.const (.int .i64 0))), none⟩]) (.cond (.tmp 18) (.seq (.ops [⟨(some 19), (.build [(.int .i64 0), (.int .i64 0)] []), none⟩, ⟨(some 20), (.mov (.tmp 6)), none⟩, ⟨none, (.store 2 (.tmp 4) (.tmp 19)), none⟩, ⟨(some 5), (.mov (.tmp 20)), none⟩]) .ret) .skip))) (.seq (.ops [⟨(some 22), (.loadN 1 (.tmp 2)), none⟩, ⟨(some 23), (.mkFunc (.func 150) [] [(.tmp 3)]), none⟩, ⟨(some 24), (.call (.func 139) [(.tmp 22), (.tmp 23)]), none⟩, ⟨(some 21), (.mov (.tmp 24)), none⟩, ⟨(some 25), (.extract (.tmp 21) 0), none⟩, ⟨(some 26), (.extract (.tmp 21) 1), none⟩, ⟨(some 7), (.new [(.int .i64 0), (.int .i64 0), (.int .i64 0), (.int .i64 0)]), none⟩, ⟨none, (.store 4 (.tmp 7) (.tmp 25)), none⟩, ⟨(some 8), (.mov (.tmp 26)), none⟩]) (.seq (.seq (.ops [⟨(some 27), (.mov (.tmp 8)), none⟩, ⟨(some 28), (.not (.tmp 27)), none⟩]) (.cond (.tmp 28) (.seq (.ops [⟨(some 29), (.build [(.int .i64 0), (.int .i64 0)] []), none⟩, ⟨none, (.store 2 (.tmp 4) (.tmp 29)), none⟩, ⟨(some 5), (.mov (.const (.int .i64 2))), none⟩]) .ret) .skip)) (.seq (.draw [(⟨(some 31), (.load (.tmp 3)), none⟩, false), (⟨(some 32), (.fieldAddr 0 (.tmp 7)), none⟩, false), (⟨(some 33), (.fieldAddr 1 (.tmp 32)), none⟩, false), (⟨(some 34), (.load (.tmp 33)), none⟩, false), (⟨(some 35), (.arith .sub (.tmp 31) (.tmp 34)), none⟩, false), (⟨(some 36), (.conv .u64 (.tmp 35)), none⟩, false), (⟨(some 37), (.loadN 4 (.tmp 7)), none⟩, false), (⟨(some 38), (.call (.func 110) [(.tmp 37)]), none⟩, false), (⟨(some 39), (.arith .mul (.const (.int .i64 64)) (.tmp 38)), none⟩, false), (⟨(some 40), (.conv .u64 (.tmp 39)), none⟩, false), (⟨(some 41), (.call (.func 151) [(.tmp 36), (.tmp 40)]), none⟩, false), (⟨(some 30), (.mov (.tmp 41)), none⟩, false), (⟨(some 42), (.extract (.tmp 30) 0), none⟩, false), (⟨(some 43), (.extract (.tmp 30) 1), none⟩, false), (⟨(some 9), (.mov (.tmp 42)), none⟩, false), (⟨(some 10), (.mov (.tmp 43)), none⟩, false)]) (.seq (.ops [⟨(some 45), (.mov (.tmp 9)), none⟩, ⟨(some 46), (.mov (.tmp 10)), none⟩, ⟨(some 47), (.loadN 4 (.tmp 7)), none⟩, ⟨(some 48), (.call (.func 142) [(.tmp 47)]), none⟩, ⟨(some 49), (.conv .u64 (.tmp 48)), none⟩, ⟨(some 50), (.call (.func 152) [(.tmp 45), (.tmp 46), (.tmp 49)]), none⟩, ⟨(some 44), (.mov (.tmp 50)), none⟩, ⟨(some 51), (.extract (.tmp 44) 0), none⟩, ⟨(some 52), (.extract (.tmp 44) 1), none⟩, ⟨(some 11), (.mov (.tmp 51)), none⟩, ⟨(some 12), (.mov (.tmp 52)), none⟩]) (.seq (.ops [⟨(some 53), (.fieldAddr 0 (.tmp 7)), none⟩, ⟨(some 54), (.fieldAddr 0 (.tmp 53)), none⟩, ⟨(some 55), (.load (.tmp 54)), none⟩, ⟨(some 56), (.arith .mul (.const (.int .i64 64)) (.tmp 55)), none⟩, ⟨(some 57), (.mov (.tmp 11)), none⟩, ⟨(some 58), (.conv .i64 (.tmp 57)), none⟩, ⟨(some 59), (.arith .add (.tmp 56) (.tmp 58)), none⟩, ⟨(some 13), (.mov (.tmp 59)), none⟩]) (.seq (.seq (.ops [⟨(some 60), (.mov (.tmp 12)), none⟩, ⟨(some 61), (.cmp .eql (.tmp 60) (.const (.int .u64 0))), none⟩]) (.cond (.tmp 61) (.seq (.ops [⟨(some 62), (.mov (.tmp 13)), none⟩, ⟨(some 63), (.mov (.tmp 13)), none⟩, ⟨(some 64), (.build [(.int .i64 0), (.int .i64 0)] [(0, (1, (.tmp 62))), (1, (1, (.tmp 63)))]), none⟩, ⟨none, (.store 2 (.tmp 4) (.tmp 64)), none⟩, ⟨(some 5), (.mov (.const (.int .i64 0))), none⟩]) .ret) .skip)) (.seq (.ops [⟨(some 65), (.mov (.tmp 13)), none⟩, ⟨(some 66), (.mov (.tmp 13)), none⟩, ⟨(some 67), (.arith .add (.tmp 66) (.const (.int .i64 1))), none⟩, ⟨(some 68), (.build [(.int .i64 0), (.int .i64 0)] [(0, (1, (.tmp 65))), (1, (1, (.tmp 67)))]), none⟩, ⟨none, (.store 2 (.tmp 4) (.tmp 68)), none⟩, ⟨(some 5), (.mov (.const (.int .i64 0))), none⟩]) .ret))))))))), 69, [(.loadN 2 4), (.tmp 5)]⟩
theorem c148 : compileFn Go.Proofs.Tryd.prog Go.Proofs.Tryd.f148 = some R148 := by kernel_rfl
theorem n148 : R148.ntmps = 69 := rfl
theorem a148 {args : List Value} {H : AHeap} {Q : Value → AHeap → Prop} (h : AWP Go.Proofs.Tryd.prog none R148.code (Fin R148 Q) (args ++ List.replicate (R148.ntmps - args.length) undef) H) : ACall Go.Proofs.Tryd.prog 148 args H Q := acall_intro mo Go.Proofs.Tryd.func148 c148 h

def R149 : RFunc :=
  ⟨(.seq (.ops [⟨(some 1), (.box (.tmp 0)), none⟩, ⟨(some 2), (.mov (.const .nilFunc)), none⟩]) (.seq (.ops [⟨(some 3), (.mkFunc (.func 153) [] [(.tmp 1)]), none⟩, ⟨(some 2), (.mov (.tmp 3)), none⟩]) .ret)), 4, [(.tmp 2)]⟩
theorem c149 : compileFn Go.Proofs.Tryd.prog Go.Proofs.Tryd.f149 = some R149 := by kernel_rfl
theorem n149 : R149.ntmps = 4 := rfl
theorem a149 {args : List Value} {H : AHeap} {Q : Value → AHeap → Prop} (h : AWP Go.Proofs.Tryd.prog none R149.code (Fin R149 Q) (args ++ List.replicate (R149.ntmps - args.length) undef) H) : ACall Go.Proofs.Tryd.prog 149 args H Q := acall_intro mo Go.Proofs.Tryd.func149 c149 h

def R150 : RFunc :=
  ⟨(.seq (.ops [⟨(some 2), (.box (.tmp 0)), none⟩, ⟨(some 3), (.mov (.const (.bool false))), none⟩]) (.seq (.ops [⟨(some 4), (.load (.tmp 1)), none⟩, ⟨(some 5), (.fieldAddr 0 (.tmp 2)), none⟩, ⟨(some 6), (.fieldAddr 1 (.tmp 5)), none⟩, ⟨(some 7), (.load (.tmp 6)), none⟩, ⟨(some 8), (.fieldAddr 2 (.tmp 2)), none⟩, ⟨(some 9), (.fieldAddr 1 (.tmp 8)), none⟩, ⟨(some 10), (.load (.tmp 9)), none⟩, ⟨(some 11), (.call (.func 141) [(.tmp 4), (.tmp 7), (.tmp 10)]), none⟩, ⟨(some 3), (.mov (.tmp 11)), none⟩]) .ret)), 12, [(.tmp 3)]⟩
theorem c150 : compileFn Go.Proofs.Tryd.prog Go.Proofs.Tryd.f150 = some R150 := by kernel_rfl
theorem n150 : R150.ntmps = 12 := rfl
theorem a150 {args : List Value} {H : AHeap} {Q : Value → AHeap → Prop} (h : AWP Go.Proofs.Tryd.prog none R150.code (Fin R150 Q) (args ++ List.replicate (R150.ntmps - args.length) undef) H) : ACall Go.Proofs.Tryd.prog 150 args H Q := acall_intro mo Go.Proofs.Tryd.func150 c150 h

def R151 : RFunc :=
  ⟨(.seq (.ops [⟨(some 4), (.mov (.const (.int .u64 0))), none⟩, ⟨(some 5), (.mov (.const (.int .u64 0))), none⟩]) (.seq (.ops [⟨(some 14), (.mov (.tmp 0)), none⟩, ⟨(some 15), (.band (.tmp 14) (.const (.int .u64 4294967295))), none⟩, ⟨(some 6), (.mov (.tmp 15)), none⟩]) (.seq (.ops [⟨(some 16), (.mov (.tmp 0)), none⟩, ⟨(some 17), (.shr (.tmp 16) (.const (.int .u64 32))), none⟩, ⟨(some 7), (.mov (.tmp 17)), none⟩]) (.seq (.ops [⟨(some 18), (.mov (.tmp 1)), none⟩, ⟨(some 19), (.band (.tmp 18) (.const (.int .u64 4294967295))), none⟩, ⟨(some 8), (.mov (.tmp 19)), none⟩]) (.seq (.ops [⟨(some 20), (.mov (.tmp 1)), none⟩, ⟨(some 21), (.shr (.tmp 20) (.const (.int .u64 32))), none⟩, ⟨(some 9), (.mov (.tmp 21)), none⟩]) (.seq (.ops [⟨(some 22), (.mov (.tmp 6)), none⟩, ⟨(some 23), (.mov (.tmp 8)), none⟩, ⟨(some 24), (.arith .mul (.tmp 22) (.tmp 23)), none⟩, ⟨(some 10), (.mov (.tmp 24)), none⟩]) (.seq (.ops [⟨(some 25), (.mov (.tmp 7)), none⟩, ⟨(some 26), (.mov (.tmp 8)), none⟩, ⟨(some 27), (.arith .mul (.tmp 25) (.tmp 26)), none⟩, ⟨(some 28), (.mov (.tmp 10)), none⟩, ⟨(some 29), (.shr (.tmp 28) (.const (.int .u64 32))), none⟩, ⟨(some 30), (.arith .add (.tmp 27) (.tmp 29)), none⟩, ⟨(some 11), (.mov (.tmp 30)), none⟩]) (.seq (.ops [⟨(some 31), (.mov (.tmp 11)), none⟩, ⟨(some 32), (.band (.tmp 31) (.const (.int .u64 4294967295))), none⟩, ⟨(some 12), (.mov (.tmp 32)), none⟩]) (.seq (.ops [⟨(some 33), (.mov (.tmp 11)), none⟩, ⟨(some 34), (.shr (.tmp 33) (.const (.int .u64 32))), none⟩, ⟨(some 13), (.mov (.tmp 34)), none⟩]) (.seq (.ops [⟨(some 35), (.mov (.tmp 12)), none⟩, ⟨(some 36), (.mov (.tmp 6)), none⟩, ⟨(some 37), (.mov (.tmp 9)), none⟩, ⟨(some 38), (.arith .mul (.tmp 36) (.tmp 37)), none⟩, ⟨(some 39), (.arith .add (.tmp 35) (.tmp 38)), none⟩, ⟨(some 12), (.mov (.tmp 39)), none⟩]) (.seq (.ops [⟨(some 40), (.mov (.tmp 7)), none⟩, ⟨(some 41), (.mov (.tmp 9)), none⟩, ⟨(some 42), (.arith .mul (.tmp 40) (.tmp 41)), none⟩, ⟨(some 43), (.mov (.tmp 13)), none⟩, ⟨(some 44), (.arith .add (.tmp 42) (.tmp 43)), none⟩, ⟨(some 45), (.mov (.tmp 12)), none⟩, ⟨(some 46), (.shr (.tmp 45) (.const (.int .u64 32))), none⟩, ⟨(some 47), (.arith .add (.tmp 44) (.tmp 46)), none⟩, ⟨(some 4), (.mov (.tmp 47)), none⟩]) (.seq (.ops [⟨(some 48), (.mov (.tmp 0)), none⟩, ⟨(some 49), (.mov (.tmp 1)), none⟩, ⟨(some 50), (.arith .mul (.tmp 48) (.tmp 49)), none⟩, ⟨(some 5), (.mov (.tmp 50)), none⟩]) .ret)))))))))))), 51, [(.tmp 4), (.tmp 5)]⟩
theorem c151 : compileFn Go.Proofs.Tryd.prog Go.Proofs.Tryd.f151 = some R151 := by kernel_rfl
theorem n151 : R151.ntmps = 51 := rfl
theorem a151 {args : List Value} {H : AHeap} {Q : Value → AHeap → Prop} (h : AWP Go.Proofs.Tryd.prog none R151.code (Fin R151 Q) (args ++ List.replicate (R151.ntmps - args.length) undef) H) : ACall Go.Proofs.Tryd.prog 151 args H Q := acall_intro mo Go.Proofs.Tryd.func151 c151 h

def R152 : RFunc :=
  ⟨(.seq (.ops [⟨(some 6), (.mov (.const (.int .u64 0))), none⟩, ⟨(some 7), (.mov (.const (.int .u64 0))), none⟩]) (.seq (.seq (.ops [⟨(some 19), (.mov (.tmp 2)), none⟩, ⟨(some 20), (.cmp .eql (.tmp 19) (.const (.int .u64 0))), none⟩]) (.cond (.tmp 20) (.ops [⟨(some 21), (.load (.global 1)), none⟩, ⟨none, (.extract (.const (.chan none)) 0), none⟩]) .skip)) (.seq (.seq (.ops [⟨(some 22), (.mov (.tmp 2)), none⟩, ⟨(some 23), (.mov (.tmp 0)), none⟩, ⟨(some 24), (.cmp .leq (.tmp 22) (.tmp 23)), none⟩]) (.cond (.tmp 24) (.ops [⟨(some 25), (.load (.global 2)), none⟩, ⟨none, (.extract (.const (.chan none)) 0), none⟩]) .skip)) (.seq (.seq (.ops [⟨(some 26), (.mov (.tmp 0)), none⟩, ⟨(some 27), (.cmp .eql (.tmp 26) (.const (.int .u64 0))), none⟩]) (.cond (.tmp 27) (.seq (.draw [(⟨(some 28), (.mov (.tmp 1)), none⟩, false), (⟨(some 29), (.mov (.tmp 2)), none⟩, false), (⟨(some 30), (.arith .quo (.tmp 28) (.tmp 29)), none⟩, false), (⟨(some 31), (.mov (.tmp 1)), none⟩, false), (⟨(some 32), (.mov (.tmp 2)), none⟩, false), (⟨(some 33), (.arith .rem (.tmp 31) (.tmp 32)), none⟩, false), (⟨(some 6), (.mov (.tmp 30)), none⟩, false), (⟨(some 7), (.mov (.tmp 33)), none⟩, false)]) .ret) .skip)) (.seq (.ops [⟨(some 34), (.mov (.tmp 2)), none⟩, ⟨(some 35), (.call (.func 154) [(.tmp 34)]), none⟩, ⟨(some 36), (.conv .u64 (.tmp 35)), none⟩, ⟨(some 8), (.mov (.tmp 36)), none⟩]) (.seq (.ops [⟨(some 37), (.mov (.tmp 2)), none⟩, ⟨(some 38), (.mov (.tmp 8)), none⟩, ⟨(some 39), (.shl (.tmp 37) (.tmp 38)), none⟩, ⟨(some 2), (.mov (.tmp 39)), none⟩]) (.seq (.ops [⟨(some 40), (.mov (.tmp 2)), none⟩, ⟨(some 41), (.shr (.tmp 40) (.const (.int .u64 32))), none⟩, ⟨(some 9), (.mov (.tmp 41)), none⟩]) (.seq (.ops [⟨(some 42), (.mov (.tmp 2)), none⟩, ⟨(some 43), (.band (.tmp 42) (.const (.int .u64 4294967295))), none⟩, ⟨(some 10), (.mov (.tmp 43)), none⟩]) (.seq (.ops [⟨(some 44), (.mov (.tmp 0)), none⟩, ⟨(some 45), (.mov (.tmp 8)), none⟩, ⟨(some 46), (.shl (.tmp 44) (.tmp 45)), none⟩, ⟨(some 47), (.mov (.tmp 1)), none⟩, ⟨(some 48), (.mov (.tmp 8)), none⟩, ⟨(some 49), (.arith .sub (.const (.int .u64 64)) (.tmp 48)), none⟩, ⟨(some 50), (.shr (.tmp 47) (.tmp 49)), none⟩, ⟨(some 51), (.bor (.tmp 46) (.tmp 50)), none⟩, ⟨(some 11), (.mov (.tmp 51)), none⟩]) (.seq (.ops [⟨(some 52), (.mov (.tmp 1)), none⟩, ⟨(some 53), (.mov (.tmp 8)), none⟩, ⟨(some 54), (.shl (.tmp 52) (.tmp 53)), none⟩, ⟨(some 12), (.mov (.tmp 54)), none⟩]) (.seq (.ops [⟨(some 55), (.mov (.tmp 12)), none⟩, ⟨(some 56), (.shr (.tmp 55) (.const (.int .u64 32))), none⟩, ⟨(some 13), (.mov (.tmp 56)), none⟩]) (.seq (.ops [⟨(some 57), (.mov (.tmp 12)), none⟩, ⟨(some 58), (.band (.tmp 57) (.const (.int .u64 4294967295))), none⟩, ⟨(some 14), (.mov (.tmp 58)), none⟩]) (.seq (.ops [⟨(some 59), (.mov (.tmp 11)), none⟩, ⟨(some 60), (.mov (.tmp 9)), none⟩, ⟨(some 61), (.arith .quo (.tmp 59) (.tmp 60)), none⟩, ⟨(some 15), (.mov (.tmp 61)), none⟩]) (.seq (.ops [⟨(some 62), (.mov (.tmp 11)), none⟩, ⟨(some 63), (.mov (.tmp 15)), none⟩, ⟨(some 64), (.mov (.tmp 9)), none⟩, ⟨(some 65), (.arith .mul (.tmp 63) (.tmp 64)), none⟩, ⟨(some 66), (.arith .sub (.tmp 62) (.tmp 65)), none⟩, ⟨(some 16), (.mov (.tmp 66)), none⟩]) (.seq (.block 0 (.loop (.seq (.seq (.ops [⟨(some 67), (.mov (.tmp 15)), none⟩, ⟨(some 68), (.cmp .geq (.tmp 67) (.const (.int .u64 4294967296))), none⟩, ⟨(some 69), (.mov (.tmp 68)), none⟩, ⟨(some 70), (.mov (.tmp 15)), (some (69, false))⟩, ⟨(some 71), (.mov (.tmp 10)), (some (69, false))⟩, ⟨(some 72), (.arith .mul (.tmp 70) (.tmp 71)), (some (69, false))⟩, ⟨(some 73), (.mov (.tmp 16)), (some (69, false))⟩, ⟨(some 74), (.arith .mul (.const (.int .u64 4294967296)) (.tmp 73)), (some (69, false))⟩, ⟨(some 75), (.mov (.tmp 13)), (some (69, false))⟩, ⟨(some 76), (.arith .add (.tmp 74) (.tmp 75)), (some (69, false))⟩, ⟨(some 77), (.cmp .gtr (.tmp 72) (.tmp 76)), (some (69, false))⟩, ⟨(some 78), (.pick (.tmp 69) (.const (.bool true)) (.tmp 77)), none⟩]) (.cond (.tmp 78) .skip (.exit 0))) (.block 1 (.seq (.ops [⟨(some 79), (.mov (.tmp 15)), none⟩, ⟨(some 80), (.arith .sub (.tmp 79) (.const (.int .u64 1))), none⟩, ⟨(some 15), (.mov (.tmp 80)), none⟩]) (.seq (.ops [⟨(some 81), (.mov (.tmp 16)), none⟩, ⟨(some 82), (.mov (.tmp 9)), none⟩, ⟨(some 83), (.arith .add (.tmp 81) (.tmp 82)), none⟩, ⟨(some 16), (.mov (.tmp 83)), none⟩]) (.seq (.ops [⟨(some 84), (.mov (.tmp 16)), none⟩, ⟨(some 85), (.cmp .geq (.tmp 84) (.const (.int .u64 4294967296))), none⟩]) (.cond (.tmp 85) (.exit 0) .skip)))))))) (.seq (.ops [⟨(some 86), (.mov (.tmp 11)), none⟩, ⟨(some 87), (.arith .mul (.tmp 86) (.const (.int .u64 4294967296))), none⟩, ⟨(some 88), (.mov (.tmp 13)), none⟩, ⟨(some 89), (.arith .add (.tmp 87) (.tmp 88)), none⟩, ⟨(some 90), (.mov (.tmp 15)), none⟩, ⟨(some 91), (.mov (.tmp 2)), none⟩, ⟨(some 92), (.arith .mul (.tmp 90) (.tmp 91)), none⟩, ⟨(some 93), (.arith .sub (.tmp 89) (.tmp 92)), none⟩, ⟨(some 17), (.mov (.tmp 93)), none⟩]) (.seq (.ops [⟨(some 94), (.mov (.tmp 17)), none⟩, ⟨(some 95), (.mov (.tmp 9)), none⟩, ⟨(some 96), (.arith .quo (.tmp 94) (.tmp 95)), none⟩, ⟨(some 18), (.mov (.tmp 96)), none⟩]) (.seq (.ops [⟨(some 97), (.mov (.tmp 17)), none⟩, ⟨(some 98), (.mov (.tmp 18)), none⟩, ⟨(some 99), (.mov (.tmp 9)), none⟩, ⟨(some 100), (.arith .mul (.tmp 98) (.tmp 99)), none⟩, ⟨(some 101), (.arith .sub (.tmp 97) (.tmp 100)), none⟩, ⟨(some 16), (.mov (.tmp 101)), none⟩]) (.seq (.block 2 (.loop (.seq (.seq (.ops [⟨(some 102), (.mov (.tmp 18)), none⟩, ⟨(some 103), (.cmp .geq (.tmp 102) (.const (.int .u64 4294967296))), none⟩, ⟨(some 104), (.mov (.tmp 103)), none⟩, ⟨(some 105), (.mov (.tmp 18)), (some (104, false))⟩, ⟨(some 106), (.mov (.tmp 10)), (some (104, false))⟩, ⟨(some 107), (.arith .mul (.tmp 105) (.tmp 106)), (some (104, false))⟩, ⟨(some 108), (.mov (.tmp 16)), (some (104, false))⟩, ⟨(some 109), (.arith .mul (.const (.int .u64 4294967296)) (.tmp 108)), (some (104, false))⟩, ⟨(some 110), (.mov (.tmp 14)), (some (104, false))⟩, ⟨(some 111), (.arith .add (.tmp 109) (.tmp 110)), (some (104, false))⟩, ⟨(some 112), (.cmp .gtr (.tmp 107) (.tmp 111)), (some (104, false))⟩, ⟨(some 113), (.pick (.tmp 104) (.const (.bool true)) (.tmp 112)), none⟩]) (.cond (.tmp 113) .skip (.exit 2))) (.block 3 (.seq (.ops [⟨(some 114), (.mov (.tmp 18)), none⟩, ⟨(some 115), (.arith .sub (.tmp 114) (.const (.int .u64 1))), none⟩, ⟨(some 18), (.mov (.tmp 115)), none⟩]) (.seq (.ops [⟨(some 116), (.mov (.tmp 16)), none⟩, ⟨(some 117), (.mov (.tmp 9)), none⟩, ⟨(some 118), (.arith .add (.tmp 116) (.tmp 117)), none⟩, ⟨(some 16), (.mov (.tmp 118)), none⟩]) (.seq (.ops [⟨(some 119), (.mov (.tmp 16)), none⟩, ⟨(some 120), (.cmp .geq (.tmp 119) (.const (.int .u64 4294967296))), none⟩]) (.cond (.tmp 120) (.exit 2) .skip)))))))) (.seq (.ops [⟨(some 121), (.mov (.tmp 15)), none⟩, ⟨(some 122), (.arith .mul (.tmp 121) (.const (.int .u64 4294967296))), none⟩, ⟨(some 123), (.mov (.tmp 18)), none⟩, ⟨(some 124), (.arith .add (.tmp 122) (.tmp 123)), none⟩, ⟨(some 125), (.mov (.tmp 17)), none⟩, ⟨(some 126), (.arith .mul (.tmp 125) (.const (.int .u64 4294967296))), none⟩, ⟨(some 127), (.mov (.tmp 14)), none⟩, ⟨(some 128), (.arith .add (.tmp 126) (.tmp 127)), none⟩, ⟨(some 129), (.mov (.tmp 18)), none⟩, ⟨(some 130), (.mov (.tmp 2)), none⟩, ⟨(some 131), (.arith .mul (.tmp 129) (.tmp 130)), none⟩, ⟨(some 132), (.arith .sub (.tmp 128) (.tmp 131)), none⟩, ⟨(some 133), (.mov (.tmp 8)), none⟩, ⟨(some 134), (.shr (.tmp 132) (.tmp 133)), none⟩, ⟨(some 6), (.mov (.tmp 124)), none⟩, ⟨(some 7), (.mov (.tmp 134)), none⟩]) .ret)))))))))))))))))))), 135, [(.tmp 6), (.tmp 7)]⟩
theorem c152 : compileFn Go.Proofs.Tryd.prog Go.Proofs.Tryd.f152 = some R152 := by kernel_rfl
theorem n152 : R152.ntmps = 135 := rfl
theorem a152 {args : List Value} {H : AHeap} {Q : Value → AHeap → Prop} (h : AWP Go.Proofs.Tryd.prog none R152.code (Fin R152 Q) (args ++ List.replicate (R152.ntmps - args.length) undef) H) : ACall Go.Proofs.Tryd.prog 152 args H Q := acall_intro mo Go.Proofs.Tryd.func152 c152 h

def R153 : RFunc :=
  ⟨(.seq (.ops [⟨(some 4), (.fieldAddr 0 (.tmp 1)), none⟩, ⟨(some 5), (.load (.tmp 4)), none⟩, ⟨(some 6), (.len (.tmp 5)), none⟩, ⟨(some 7), (.arith .sub (.tmp 6) (.const (.int .i64 1))), none⟩, ⟨(some 8), (.mov (.const (.int .i64 0))), none⟩]) (.block 0 (.loop (.seq (.ops [⟨(some 9), (.cmp .lss (.tmp 8) (.tmp 7)), none⟩]) (.seq (.cond (.tmp 9) .skip (.exit 0)) (.seq (.block 1 (.seq (.ops [⟨(some 10), (.mov (.tmp 8)), none⟩, ⟨(some 3), (.mov (.tmp 10)), none⟩]) (.seq (.draw [(⟨(some 11), (.mov (.tmp 0)), none⟩, false), (⟨(some 12), (.mov (.tmp 3)), none⟩, false), (⟨(some 13), (.fieldAddr 0 (.tmp 1)), none⟩, false), (⟨(some 14), (.load (.tmp 13)), none⟩, false), (⟨(some 15), (.mov (.tmp 3)), none⟩, false), (⟨(some 16), (.idxAddr 2 (.tmp 14) (.tmp 15)), none⟩, false), (⟨(some 17), (.loadN 2 (.tmp 16)), none⟩, false), (⟨(some 18), (.fieldAddr 0 (.tmp 1)), none⟩, false), (⟨(some 19), (.load (.tmp 18)), none⟩, false), (⟨(some 20), (.mov (.tmp 3)), none⟩, false), (⟨(some 21), (.arith .add (.tmp 20) (.const (.int .i64 1))), none⟩, false), (⟨(some 22), (.idxAddr 2 (.tmp 19) (.tmp 21)), none⟩, false), (⟨(some 23), (.loadN 2 (.tmp 22)), none⟩, false), (⟨(some 24), (.build [(.int .i64 0), (.int .i64 0), (.int .i64 0), (.int .i64 0)] [(0, (2, (.tmp 17))), (2, (2, (.tmp 23)))]), none⟩, false), (⟨(some 25), (.call (.tmp 11) [(.tmp 12), (.tmp 24)]), none⟩, true), (⟨(some 26), (.not (.tmp 25)), none⟩, false)]) (.cond (.tmp 26) .ret .skip)))) (.ops [⟨(some 27), (.arith .add (.tmp 8) (.const (.int .i64 1))), none⟩, ⟨(some 8), (.mov (.tmp 27)), none⟩]))))))), 28, []⟩
theorem c153 : compileFn Go.Proofs.Tryd.prog Go.Proofs.Tryd.f153 = some R153 := by kernel_rfl
theorem n153 : R153.ntmps = 28 := rfl
theorem a153 {args : List Value} {H : AHeap} {Q : Value → AHeap → Prop} (h : AWP Go.Proofs.Tryd.prog none R153.code (Fin R153 Q) (args ++ List.replicate (R153.ntmps - args.length) undef) H) : ACall Go.Proofs.Tryd.prog 153 args H Q := acall_intro mo Go.Proofs.Tryd.func153 c153 h

def R154 : RFunc :=
  ⟨(.seq (.ops [⟨(some 2), (.mov (.const (.int .i64 0))), none⟩]) (.seq (.ops [⟨(some 3), (.mov (.tmp 0)), none⟩, ⟨(some 4), (.call (.func 155) [(.tmp 3)]), none⟩, ⟨(some 5), (.arith .sub (.const (.int .i64 64)) (.tmp 4)), none⟩, ⟨(some 2), (.mov (.tmp 5)), none⟩]) .ret)), 6, [(.tmp 2)]⟩
theorem c154 : compileFn Go.Proofs.Tryd.prog Go.Proofs.Tryd.f154 = some R154 := by kernel_rfl
theorem n154 : R154.ntmps = 6 := rfl
theorem a154 {args : List Value} {H : AHeap} {Q : Value → AHeap → Prop} (h : AWP Go.Proofs.Tryd.prog none R154.code (Fin R154 Q) (args ++ List.replicate (R154.ntmps - args.length) undef) H) : ACall Go.Proofs.Tryd.prog 154 args H Q := acall_intro mo Go.Proofs.Tryd.func154 c154 h

def R155 : RFunc :=
  ⟨(.seq (.ops [⟨(some 2), (.mov (.const (.int .i64 0))), none⟩]) (.seq (.seq (.ops [⟨(some 3), (.mov (.tmp 0)), none⟩, ⟨(some 4), (.cmp .geq (.tmp 3) (.const (.int .u64 4294967296))), none⟩]) (.cond (.tmp 4) (.seq (.ops [⟨(some 5), (.mov (.tmp 0)), none⟩, ⟨(some 6), (.shr (.tmp 5) (.const (.int .u64 32))), none⟩, ⟨(some 0), (.mov (.tmp 6)), none⟩]) (.ops [⟨(some 2), (.mov (.const (.int .i64 32))), none⟩])) .skip)) (.seq (.seq (.ops [⟨(some 7), (.mov (.tmp 0)), none⟩, ⟨(some 8), (.cmp .geq (.tmp 7) (.const (.int .u64 65536))), none⟩]) (.cond (.tmp 8) (.seq (.ops [⟨(some 9), (.mov (.tmp 0)), none⟩, ⟨(some 10), (.shr (.tmp 9) (.const (.int .u64 16))), none⟩, ⟨(some 0), (.mov (.tmp 10)), none⟩]) (.ops [⟨(some 11), (.mov (.tmp 2)), none⟩, ⟨(some 12), (.arith .add (.tmp 11) (.const (.int .i64 16))), none⟩, ⟨(some 2), (.mov (.tmp 12)), none⟩])) .skip)) (.seq (.seq (.ops [⟨(some 13), (.mov (.tmp 0)), none⟩, ⟨(some 14), (.cmp .geq (.tmp 13) (.const (.int .u64 256))), none⟩]) (.cond (.tmp 14) (.seq (.ops [⟨(some 15), (.mov (.tmp 0)), none⟩, ⟨(some 16), (.shr (.tmp 15) (.const (.int .u64 8))), none⟩, ⟨(some 0), (.mov (.tmp 16)), none⟩]) (.ops [⟨(some 17), (.mov (.tmp 2)), none⟩, ⟨(some 18), (.arith .add (.tmp 17) (.const (.int .i64 8))), none⟩, ⟨(some 2), (.mov (.tmp 18)), none⟩])) .skip)) (.seq (.ops [⟨(some 19), (.mov (.tmp 2)), none⟩, ⟨(some 20), (.mov (.tmp 0)), none⟩, ⟨(some 21), (.conv .u8 (.tmp 20)), none⟩, ⟨(some 22), (.idxS (.const (.string ⟨#[0, 1, 2, 2, 3, 3, 3, 3, 4, 4, 4, 4, 4, 4, 4, 4, 5, 5, 5, 5, 5, 5, 5, 5, 5, 5, 5, 5, 5, 5, 5, 5, 6, 6, 6, 6, 6, 6, 6, 6, 6, 6, 6, 6, 6, 6, 6, 6, 6, 6, 6, 6, 6, 6, 6, 6, 6, 6, 6, 6, 6, 6, 6, 6, 7, 7, 7, 7, 7, 7, 7, 7, 7, 7, 7, 7, 7, 7, 7, 7, 7, 7, 7, 7, 7, 7, 7, 7, 7, 7, 7, 7, 7, 7, 7, 7, 7, 7, 7, 7, 7, 7, 7, 7, 7, 7, 7, 7, 7, 7, 7, 7, 7, 7, 7, 7, 7, 7, 7, 7, 7, 7, 7, 7, 7, 7, 7, 7, 8, 8, 8, 8, 8, 8, 8, 8, 8, 8, 8, 8, 8, 8, 8, 8, 8, 8, 8, 8, 8, 8, 8, 8, 8, 8, 8, 8, 8, 8, 8, 8, 8, 8, 8, 8, 8, 8, 8, 8, 8, 8, 8, 8, 8, 8, 8, 8, 8, 8, 8, 8, 8, 8, 8, 8, 8, 8, 8, 8, 8, 8, 8, 8, 8, 8, 8, 8, 8, 8, 8, 8, 8, 8, 8, 8, 8, 8, 8, 8, 8, 8, 8, 8, 8, 8, 8, 8, 8, 8, 8, 8, 8, 8, 8, 8, 8, 8, 8, 8, 8, 8, 8, 8, 8, 8, 8, 8, 8, 8, 8, 8, 8, 8, 8, 8, 8, 8, 8, 8, 8, 8, 8, 8, 8, 8, 8, 8]⟩)) (.tmp 21)), none⟩, ⟨(some 23), (.conv .i64 (.tmp 22)), none⟩, ⟨(some 24), (.arith .add (.tmp 19) (.tmp 23)), none⟩, ⟨(some 2), (.mov (.tmp 24)), none⟩]) .ret))))), 25, [(.tmp 2)]⟩
theorem c155 : compileFn Go.Proofs.Tryd.prog Go.Proofs.Tryd.f155 = some R155 := by kernel_rfl
theorem n155 : R155.ntmps = 25 := rfl
theorem a155 {args : List Value} {H : AHeap} {Q : Value → AHeap → Prop} (h : AWP Go.Proofs.Tryd.prog none R155.code (Fin R155 Q) (args ++ List.replicate (R155.ntmps - args.length) undef) H) : ACall Go.Proofs.Tryd.prog 155 args H Q := acall_intro mo Go.Proofs.Tryd.func155 c155 h

def R173 : RFunc :=
  ⟨(.seq (.ops [⟨(some 2), (.mov (.const (.slice none 0 0))), none⟩]) (.seq (.ops [⟨(some 3), (.mov (.tmp 0)), none⟩, ⟨(some 4), (.arith .sub (.const (.int .i64 64)) (.tmp 3)), none⟩, ⟨(some 5), (.mov (.tmp 0)), none⟩, ⟨(some 6), (.buildSlice 1 2 [(.int .i64 0), (.int .i64 0)] [(0, (1, (.tmp 4))), (1, (1, (.tmp 5)))]), none⟩, ⟨(some 2), (.mov (.tmp 6)), none⟩]) .ret)), 7, [(.tmp 2)]⟩
theorem c173 : compileFn Go.Proofs.Tryd.prog Go.Proofs.Tryd.f173 = some R173 := by kernel_rfl
theorem n173 : R173.ntmps = 7 := rfl
theorem a173 {args : List Value} {H : AHeap} {Q : Value → AHeap → Prop} (h : AWP Go.Proofs.Tryd.prog none R173.code (Fin R173 Q) (args ++ List.replicate (R173.ntmps - args.length) undef) H) : ACall Go.Proofs.Tryd.prog 173 args H Q := acall_intro mo Go.Proofs.Tryd.func173 c173 h

def R174 : RFunc :=
  ⟨(.seq (.ops [⟨(some 2), (.mov (.const (.int .i64 0))), none⟩]) (.seq (.ops [⟨(some 3), (.mov (.tmp 0)), none⟩, ⟨(some 4), (.mov (.tmp 0)), none⟩, ⟨(some 5), (.arith .sub (.tmp 4) (.const (.int .i64 64))), none⟩, ⟨(some 6), (.arith .mul (.tmp 3) (.tmp 5)), none⟩, ⟨(some 2), (.mov (.tmp 6)), none⟩]) .ret)), 7, [(.tmp 2)]⟩
theorem c174 : compileFn Go.Proofs.Tryd.prog Go.Proofs.Tryd.f174 = some R174 := by kernel_rfl
theorem n174 : R174.ntmps = 7 := rfl
theorem a174 {args : List Value} {H : AHeap} {Q : Value → AHeap → Prop} (h : AWP Go.Proofs.Tryd.prog none R174.code (Fin R174 Q) (args ++ List.replicate (R174.ntmps - args.length) undef) H) : ACall Go.Proofs.Tryd.prog 174 args H Q := acall_intro mo Go.Proofs.Tryd.func174 c174 h

def R175 : RFunc :=
  ⟨(.seq (.ops [⟨(some 2), (.mov (.const (.slice none 0 0))), none⟩]) (.seq (.ops [⟨(some 6), (.mov (.tmp 0)), none⟩, ⟨(some 7), (.arith .add (.tmp 6) (.const (.int .i64 64))), none⟩, ⟨(some 8), (.mov (.tmp 0)), none⟩, ⟨(some 9), (.arith .sub (.tmp 8) (.const (.int .i64 64))), none⟩, ⟨(some 10), (.mov (.tmp 0)), none⟩, ⟨(some 11), (.arith .sub (.tmp 10) (.const (.int .i64 128))), none⟩, ⟨(some 3), (.mov (.tmp 7)), none⟩, ⟨(some 4), (.mov (.tmp 9)), none⟩, ⟨(some 5), (.mov (.tmp 11)), none⟩]) (.seq (.ops [⟨(some 12), (.mov (.tmp 0)), none⟩, ⟨(some 13), (.neg (.tmp 12)), none⟩, ⟨(some 14), (.mov (.tmp 4)), none⟩, ⟨(some 15), (.arith .mul (.tmp 13) (.tmp 14)), none⟩, ⟨(some 16), (.mov (.tmp 5)), none⟩, ⟨(some 17), (.arith .mul (.tmp 15) (.tmp 16)), none⟩, ⟨(some 18), (.mov (.tmp 3)), none⟩, ⟨(some 19), (.arith .mul (.const (.int .i64 3)) (.tmp 18)), none⟩, ⟨(some 20), (.mov (.tmp 4)), none⟩, ⟨(some 21), (.arith .mul (.tmp 19) (.tmp 20)), none⟩, ⟨(some 22), (.mov (.tmp 5)), none⟩, ⟨(some 23), (.arith .mul (.tmp 21) (.tmp 22)), none⟩, ⟨(some 24), (.mov (.tmp 3)), none⟩, ⟨(some 25), (.arith .mul (.const (.int .i64 (-3))) (.tmp 24)), none⟩, ⟨(some 26), (.mov (.tmp 0)), none⟩, ⟨(some 27), (.arith .mul (.tmp 25) (.tmp 26)), none⟩, ⟨(some 28), (.mov (.tmp 5)), none⟩, ⟨(some 29), (.arith .mul (.tmp 27) (.tmp 28)), none⟩, ⟨(some 30), (.mov (.tmp 3)), none⟩, ⟨(some 31), (.mov (.tmp 0)), none⟩, ⟨(some 32), (.arith .mul (.tmp 30) (.tmp 31)), none⟩, ⟨(some 33), (.mov (.tmp 4)), none⟩, ⟨(some 34), (.arith .mul (.tmp 32) (.tmp 33)), none⟩, ⟨(some 35), (.buildSlice 1 4 [(.int .i64 0), (.int .i64 0), (.int .i64 0), (.int .i64 0)] [(0, (1, (.tmp 17))), (1, (1, (.tmp 23))), (2, (1, (.tmp 29))), (3, (1, (.tmp 34)))]), none⟩, ⟨(some 2), (.mov (.tmp 35)), none⟩]) .ret))), 36, [(.tmp 2)]⟩
theorem c175 : compileFn Go.Proofs.Tryd.prog Go.Proofs.Tryd.f175 = some R175 := by kernel_rfl
theorem n175 : R175.ntmps = 36 := rfl
theorem a175 {args : List Value} {H : AHeap} {Q : Value → AHeap → Prop} (h : AWP Go.Proofs.Tryd.prog none R175.code (Fin R175 Q) (args ++ List.replicate (R175.ntmps - args.length) undef) H) : ACall Go.Proofs.Tryd.prog 175 args H Q := acall_intro mo Go.Proofs.Tryd.func175 c175 h

def R176 : RFunc :=
  ⟨(.seq (.ops [⟨(some 2), (.mov (.const (.int .i64 0))), none⟩]) (.seq (.ops [⟨(some 3), (.mov (.tmp 0)), none⟩, ⟨(some 4), (.arith .add (.tmp 3) (.const (.int .i64 64))), none⟩, ⟨(some 5), (.mov (.tmp 0)), none⟩, ⟨(some 6), (.arith .mul (.tmp 4) (.tmp 5)), none⟩, ⟨(some 7), (.mov (.tmp 0)), none⟩, ⟨(some 8), (.arith .sub (.tmp 7) (.const (.int .i64 64))), none⟩, ⟨(some 9), (.arith .mul (.tmp 6) (.tmp 8)), none⟩, ⟨(some 10), (.mov (.tmp 0)), none⟩, ⟨(some 11), (.arith .sub (.tmp 10) (.const (.int .i64 128))), none⟩, ⟨(some 12), (.arith .mul (.tmp 9) (.tmp 11)), none⟩, ⟨(some 2), (.mov (.tmp 12)), none⟩]) .ret)), 13, [(.tmp 2)]⟩
theorem c176 : compileFn Go.Proofs.Tryd.prog Go.Proofs.Tryd.f176 = some R176 := by kernel_rfl
theorem n176 : R176.ntmps = 13 := rfl
theorem a176 {args : List Value} {H : AHeap} {Q : Value → AHeap → Prop} (h : AWP Go.Proofs.Tryd.prog none R176.code (Fin R176 Q) (args ++ List.replicate (R176.ntmps - args.length) undef) H) : ACall Go.Proofs.Tryd.prog 176 args H Q := acall_intro mo Go.Proofs.Tryd.func176 c176 h

end Go.Lq

namespace Go.Lq
open Go

def tabA : List (Nat × RFunc) :=
  [(20, R20), (23, R23), (27, R27), (33, R33), (37, R37), (41, R41), (64, R64), (72, R72), (86, R86), (87, R87), (88, R88), (89, R89), (90, R90), (91, R91), (92, R92), (93, R93), (94, R94), (95, R95), (96, R96), (97, R97), (100, R100), (101, R101), (102, R102), (106, R106), (110, R110), (113, R113), (115, R115), (116, R116), (118, R118), (121, R121), (129, R129), (131, R131), (132, R132), (133, R133), (134, R134), (135, R135), (136, R136), (139, R139), (141, R141), (142, R142), (143, R143), (144, R144), (146, R146), (147, R147), (148, R148), (149, R149), (150, R150), (151, R151), (152, R152), (153, R153), (154, R154), (155, R155), (173, R173), (174, R174), (175, R175), (176, R176)]

def TA (f : Nat) : Option RFunc := (tabA.find? (fun p => p.1 == f)).map (·.2)

theorem soundTA : SoundT Go.Proofs.Tryd.prog TA := by
  intro f rf h
  have key : ∀ p ∈ tabA, ∃ fn, Go.Proofs.Tryd.prog.funcs[p.1]? = some fn ∧ compileFn Go.Proofs.Tryd.prog fn = some p.2 := by
    unfold tabA
    refine List.forall_mem_cons.2 ⟨⟨_, Go.Proofs.Tryd.func20, c20⟩, List.forall_mem_cons.2 ⟨⟨_, Go.Proofs.Tryd.func23, c23⟩, List.forall_mem_cons.2 ⟨⟨_, Go.Proofs.Tryd.func27, c27⟩, List.forall_mem_cons.2 ⟨⟨_, Go.Proofs.Tryd.func33, c33⟩, List.forall_mem_cons.2 ⟨⟨_, Go.Proofs.Tryd.func37, c37⟩, List.forall_mem_cons.2 ⟨⟨_, Go.Proofs.Tryd.func41, c41⟩, List.forall_mem_cons.2 ⟨⟨_, Go.Proofs.Tryd.func64, c64⟩, List.forall_mem_cons.2 ⟨⟨_, Go.Proofs.Tryd.func72, c72⟩, List.forall_mem_cons.2 ⟨⟨_, Go.Proofs.Tryd.func86, c86⟩, List.forall_mem_cons.2 ⟨⟨_, Go.Proofs.Tryd.func87, c87⟩, List.forall_mem_cons.2 ⟨⟨_, Go.Proofs.Tryd.func88, c88⟩, List.forall_mem_cons.2 ⟨⟨_, Go.Proofs.Tryd.func89, c89⟩, List.forall_mem_cons.2 ⟨⟨_, Go.Proofs.Tryd.func90, c90⟩, List.forall_mem_cons.2 ⟨⟨_, Go.Proofs.Tryd.func91, c91⟩, List.forall_mem_cons.2 ⟨⟨_, Go.Proofs.Tryd.func92, c92⟩, List.forall_mem_cons.2 ⟨⟨_, Go.Proofs.Tryd.func93, c93⟩, List.forall_mem_cons.2 ⟨⟨_, Go.Proofs.Tryd.func94, c94⟩, List.forall_mem_cons.2 ⟨⟨_, Go.Proofs.Tryd.func95, c95⟩, List.forall_mem_cons.2 ⟨⟨_, Go.Proofs.Tryd.func96, c96⟩, List.forall_mem_cons.2 ⟨⟨_, Go.Proofs.Tryd.func97, c97⟩, List.forall_mem_cons.2 ⟨⟨_, Go.Proofs.Tryd.func100, c100⟩, List.forall_mem_cons.2 ⟨⟨_, Go.Proofs.Tryd.func101, c101⟩, List.forall_mem_cons.2 ⟨⟨_, Go.Proofs.Tryd.func102, c102⟩, List.forall_mem_cons.2 ⟨⟨_, Go.Proofs.Tryd.func106, c106⟩, List.forall_mem_cons.2 ⟨⟨_, Go.Proofs.Tryd.func110, c110⟩, List.forall_mem_cons.2 ⟨⟨_, Go.Proofs.Tryd.func113, c113⟩, List.forall_mem_cons.2 ⟨⟨_, Go.Proofs.Tryd.func115, c115⟩, List.forall_mem_cons.2 ⟨⟨_, Go.Proofs.Tryd.func116, c116⟩, List.forall_mem_cons.2 ⟨⟨_, Go.Proofs.Tryd.func118, c118⟩, List.forall_mem_cons.2 ⟨⟨_, Go.Proofs.Tryd.func121, c121⟩, List.forall_mem_cons.2 ⟨⟨_, Go.Proofs.Tryd.func129, c129⟩, List.forall_mem_cons.2 ⟨⟨_, Go.Proofs.Tryd.func131, c131⟩, List.forall_mem_cons.2 ⟨⟨_, Go.Proofs.Tryd.func132, c132⟩, List.forall_mem_cons.2 ⟨⟨_, Go.Proofs.Tryd.func133, c133⟩, List.forall_mem_cons.2 ⟨⟨_, Go.Proofs.Tryd.func134, c134⟩, List.forall_mem_cons.2 ⟨⟨_, Go.Proofs.Tryd.func135, c135⟩, List.forall_mem_cons.2 ⟨⟨_, Go.Proofs.Tryd.func136, c136⟩, List.forall_mem_cons.2 ⟨⟨_, Go.Proofs.Tryd.func139, c139⟩, List.forall_mem_cons.2 ⟨⟨_, Go.Proofs.Tryd.func141, c141⟩, List.forall_mem_cons.2 ⟨⟨_, Go.Proofs.Tryd.func142, c142⟩, List.forall_mem_cons.2 ⟨⟨_, Go.Proofs.Tryd.func143, c143⟩, List.forall_mem_cons.2 ⟨⟨_, Go.Proofs.Tryd.func144, c144⟩, List.forall_mem_cons.2 ⟨⟨_, Go.Proofs.Tryd.func146, c146⟩, List.forall_mem_cons.2 ⟨⟨_, Go.Proofs.Tryd.func147, c147⟩, List.forall_mem_cons.2 ⟨⟨_, Go.Proofs.Tryd.func148, c148⟩, List.forall_mem_cons.2 ⟨⟨_, Go.Proofs.Tryd.func149, c149⟩, List.forall_mem_cons.2 ⟨⟨_, Go.Proofs.Tryd.func150, c150⟩, List.forall_mem_cons.2 ⟨⟨_, Go.Proofs.Tryd.func151, c151⟩, List.forall_mem_cons.2 ⟨⟨_, Go.Proofs.Tryd.func152, c152⟩, List.forall_mem_cons.2 ⟨⟨_, Go.Proofs.Tryd.func153, c153⟩, List.forall_mem_cons.2 ⟨⟨_, Go.Proofs.Tryd.func154, c154⟩, List.forall_mem_cons.2 ⟨⟨_, Go.Proofs.Tryd.func155, c155⟩, List.forall_mem_cons.2 ⟨⟨_, Go.Proofs.Tryd.func173, c173⟩, List.forall_mem_cons.2 ⟨⟨_, Go.Proofs.Tryd.func174, c174⟩, List.forall_mem_cons.2 ⟨⟨_, Go.Proofs.Tryd.func175, c175⟩, List.forall_mem_cons.2 ⟨⟨_, Go.Proofs.Tryd.func176, c176⟩, fun p hp => by cases hp⟩⟩⟩⟩⟩⟩⟩⟩⟩⟩⟩⟩⟩⟩⟩⟩⟩⟩⟩⟩⟩⟩⟩⟩⟩⟩⟩⟩⟩⟩⟩⟩⟩⟩⟩⟩⟩⟩⟩⟩⟩⟩⟩⟩⟩⟩⟩⟩⟩⟩⟩⟩⟩⟩⟩⟩
  simp only [TA, Option.map_eq_some_iff] at h
  obtain ⟨p, hp, rfl⟩ := h
  have hm := List.mem_of_find?_eq_some hp
  have hf := List.find?_some hp
  have : p.1 = f := by simpa using hf
  subst this
  exact key p hm

def colO (_ : Value) (_ : List Value) (_ : AHeap) : Option Value := none

end Go.Lq

namespace Go.Lq
open Go
def nth : Nat → RCode → RCode
  | 0, .seq a _ => a
  | n + 1, .seq _ b => nth n b
  | _, c => c
def kernelCells : List Value := [.int .i64 0, .int .i64 0, .nilFunc, .nilFunc, .int .i64 0, .int .i64 0, .int .i64 64, .func (.func 173) #[] #[], .func (.func 174) #[] #[], .int .i64 8192,
  .int .i64 0, .int .i64 0, .nilFunc, .nilFunc, .int .i64 0, .int .i64 (-1), .int .i64 1572864, .func (.func 175) #[] #[], .func (.func 176) #[] #[], .int .i64 402653184]
def H0 : AHeap := [.cells false 5 kernelCells, .cells false 1 [], .cells false 1 []]
def E0 : Env := List.replicate 68 undef
end Go.Lq

namespace Go.Lq
open Go

def E1 : Env :=
  [(.bool false), (.tuple #[]), (.tuple #[]), (.tuple #[]), (.tuple #[]), (.tuple #[]), (.tuple #[]), (.tuple #[]), (.tuple #[]), (.tuple #[]), (.tuple #[]), (.tuple #[]), (.tuple #[]), (.tuple #[]), (.tuple #[]), (.tuple #[]), (.tuple #[]), (.tuple #[]), (.tuple #[]), (.tuple #[]), (.tuple #[]), (.tuple #[]), (.tuple #[]), (.tuple #[]), (.tuple #[]), (.tuple #[]), (.tuple #[]), (.tuple #[]), (.tuple #[]), (.tuple #[]), (.tuple #[]), (.tuple #[]), (.tuple #[]), (.tuple #[]), (.tuple #[]), (.tuple #[]), (.tuple #[]), (.tuple #[]), (.tuple #[]), (.tuple #[]), (.tuple #[]), (.tuple #[]), (.tuple #[]), (.tuple #[]), (.tuple #[]), (.tuple #[]), (.tuple #[]), (.tuple #[]), (.tuple #[]), (.tuple #[]), (.tuple #[]), (.tuple #[]), (.tuple #[]), (.tuple #[]), (.tuple #[]), (.tuple #[]), (.tuple #[]), (.tuple #[]), (.tuple #[]), (.tuple #[]), (.tuple #[]), (.tuple #[]), (.tuple #[]), (.tuple #[]), (.tuple #[]), (.tuple #[]), (.tuple #[]), (.tuple #[])]
def H1 : AHeap :=
  [(.cells false 5 [(.int .i64 0), (.int .i64 0), .nilFunc, .nilFunc, (.int .i64 0), (.int .i64 0), (.int .i64 64), (.func (.func 173) #[] #[]), (.func (.func 174) #[] #[]), (.int .i64 8192), (.int .i64 0), (.int .i64 0), .nilFunc, .nilFunc, (.int .i64 0), (.int .i64 (-1)), (.int .i64 1572864), (.func (.func 175) #[] #[]), (.func (.func 176) #[] #[]), (.int .i64 402653184)]), (.cells false 1 []), (.cells false 1 [])]
def E2 : Env :=
  [(.bool false), (.int .i64 22609920), (.int .i64 1572864), (.int .i64 0), (.tuple #[]), (.tuple #[]), (.tuple #[]), (.tuple #[]), (.tuple #[]), (.tuple #[]), (.tuple #[(.int .i64 22609920), (.int .i64 1572864), (.int .i64 0)]), (.slice (some ⟨3, 0, none⟩) 4 4), (.tuple #[(.int .i64 22609920), (.int .i64 1572864), (.int .i64 0)]), (.int .i64 22609920), (.int .i64 1572864), (.int .i64 0), (.tuple #[]), (.tuple #[]), (.tuple #[]), (.tuple #[]), (.tuple #[]), (.tuple #[]), (.tuple #[]), (.tuple #[]), (.tuple #[]), (.tuple #[]), (.tuple #[]), (.tuple #[]), (.tuple #[]), (.tuple #[]), (.tuple #[]), (.tuple #[]), (.tuple #[]), (.tuple #[]), (.tuple #[]), (.tuple #[]), (.tuple #[]), (.tuple #[]), (.tuple #[]), (.tuple #[]), (.tuple #[]), (.tuple #[]), (.tuple #[]), (.tuple #[]), (.tuple #[]), (.tuple #[]), (.tuple #[]), (.tuple #[]), (.tuple #[]), (.tuple #[]), (.tuple #[]), (.tuple #[]), (.tuple #[]), (.tuple #[]), (.tuple #[]), (.tuple #[]), (.tuple #[]), (.tuple #[]), (.tuple #[]), (.tuple #[]), (.tuple #[]), (.tuple #[]), (.tuple #[]), (.tuple #[]), (.tuple #[]), (.tuple #[]), (.tuple #[]), (.tuple #[])]
def H2 : AHeap :=
  [(.cells false 5 [(.int .i64 0), (.int .i64 0), .nilFunc, .nilFunc, (.int .i64 0), (.int .i64 0), (.int .i64 64), (.func (.func 173) #[] #[]), (.func (.func 174) #[] #[]), (.int .i64 8192), (.int .i64 0), (.int .i64 0), .nilFunc, .nilFunc, (.int .i64 0), (.int .i64 (-1)), (.int .i64 1572864), (.func (.func 175) #[] #[]), (.func (.func 176) #[] #[]), (.int .i64 402653184)]), (.cells false 1 []), (.cells false 1 []), (.cells true 1 [(.int .i64 0), (.int .i64 10), (.int .i64 20), (.int .i64 40)])]
def E3 : Env :=
  [(.bool false), (.int .i64 22609920), (.int .i64 1572864), (.int .i64 0), (.slice (some ⟨7, 0, none⟩) 9 9), (.int .i64 0), (.tuple #[]), (.tuple #[]), (.tuple #[]), (.tuple #[]), (.tuple #[(.int .i64 22609920), (.int .i64 1572864), (.int .i64 0)]), (.slice (some ⟨3, 0, none⟩) 4 4), (.tuple #[(.int .i64 22609920), (.int .i64 1572864), (.int .i64 0)]), (.int .i64 22609920), (.int .i64 1572864), (.int .i64 0), (.tuple #[(.slice (some ⟨7, 0, none⟩) 9 9), (.int .i64 0)]), (.agg #[(.slice (some ⟨5, 0, none⟩) 3 3)]), (.agg #[(.int .i64 1), (.int .i64 1), (.int .i64 0), (.int .i64 0), (.int .i64 5), (.slice (some ⟨5, 0, none⟩) 3 3)]), (.slice (some ⟨6, 0, none⟩) 4 4), (.tuple #[(.slice (some ⟨7, 0, none⟩) 9 9), (.int .i64 0)]), (.slice (some ⟨7, 0, none⟩) 9 9), (.int .i64 0), (.tuple #[]), (.tuple #[]), (.tuple #[]), (.tuple #[]), (.tuple #[]), (.tuple #[]), (.tuple #[]), (.tuple #[]), (.tuple #[]), (.tuple #[]), (.tuple #[]), (.tuple #[]), (.tuple #[]), (.tuple #[]), (.tuple #[]), (.tuple #[]), (.tuple #[]), (.tuple #[]), (.tuple #[]), (.tuple #[]), (.tuple #[]), (.tuple #[]), (.tuple #[]), (.tuple #[]), (.tuple #[]), (.tuple #[]), (.tuple #[]), (.tuple #[]), (.tuple #[]), (.tuple #[]), (.tuple #[]), (.tuple #[]), (.tuple #[]), (.tuple #[]), (.tuple #[]), (.tuple #[]), (.tuple #[]), (.tuple #[]), (.tuple #[]), (.tuple #[]), (.tuple #[]), (.tuple #[]), (.tuple #[]), (.tuple #[]), (.tuple #[])]
def H3 : AHeap :=
  [(.cells false 5 [(.int .i64 0), (.int .i64 0), .nilFunc, .nilFunc, (.int .i64 0), (.int .i64 0), (.int .i64 64), (.func (.func 173) #[] #[]), (.func (.func 174) #[] #[]), (.int .i64 8192), (.int .i64 0), (.int .i64 0), .nilFunc, .nilFunc, (.int .i64 0), (.int .i64 (-1)), (.int .i64 1572864), (.func (.func 175) #[] #[]), (.func (.func 176) #[] #[]), (.int .i64 402653184)]), (.cells false 1 []), (.cells false 1 []), (.cells true 1 [(.int .i64 0), (.int .i64 10), (.int .i64 20), (.int .i64 40)]), (.cells true 0 [(.slice (some ⟨5, 0, none⟩) 3 3)]), (.cells true 2 [(.int .i64 0), (.int .i64 0), (.int .i64 2), (.int .i64 20), (.int .i64 3), (.int .i64 40)]), (.cells true 1 [(.int .i64 0), (.int .i64 10), (.int .i64 20), (.int .i64 40)]), (.cells true 1 [(.int .i64 0), (.int .i64 5), (.int .i64 10), (.int .i64 15), (.int .i64 20), (.int .i64 25), (.int .i64 30), (.int .i64 35), (.int .i64 40)])]
def E4 : Env :=
  [(.bool false), (.int .i64 22609920), (.int .i64 1572864), (.int .i64 0), (.slice (some ⟨7, 0, none⟩) 9 9), (.int .i64 0), (.pointer (some ⟨8, 0, none⟩)), (.int .i64 0), (.tuple #[]), (.tuple #[]), (.tuple #[(.int .i64 22609920), (.int .i64 1572864), (.int .i64 0)]), (.slice (some ⟨3, 0, none⟩) 4 4), (.tuple #[(.int .i64 22609920), (.int .i64 1572864), (.int .i64 0)]), (.int .i64 22609920), (.int .i64 1572864), (.int .i64 0), (.tuple #[(.slice (some ⟨7, 0, none⟩) 9 9), (.int .i64 0)]), (.agg #[(.slice (some ⟨5, 0, none⟩) 3 3)]), (.agg #[(.int .i64 1), (.int .i64 1), (.int .i64 0), (.int .i64 0), (.int .i64 5), (.slice (some ⟨5, 0, none⟩) 3 3)]), (.slice (some ⟨6, 0, none⟩) 4 4), (.tuple #[(.slice (some ⟨7, 0, none⟩) 9 9), (.int .i64 0)]), (.slice (some ⟨7, 0, none⟩) 9 9), (.int .i64 0), (.tuple #[(.agg #[(.int .i64 3), (.int .i64 128)]), (.int .i64 0)]), (.tuple #[(.agg #[(.int .i64 3), (.int .i64 128)]), (.int .i64 0)]), (.agg #[(.int .i64 3), (.int .i64 128)]), (.int .i64 0), (.tuple #[]), (.tuple #[]), (.tuple #[]), (.tuple #[]), (.tuple #[]), (.tuple #[]), (.tuple #[]), (.tuple #[]), (.tuple #[]), (.tuple #[]), (.tuple #[]), (.tuple #[]), (.tuple #[]), (.tuple #[]), (.tuple #[]), (.tuple #[]), (.tuple #[]), (.tuple #[]), (.tuple #[]), (.tuple #[]), (.tuple #[]), (.tuple #[]), (.tuple #[]), (.tuple #[]), (.tuple #[]), (.tuple #[]), (.tuple #[]), (.tuple #[]), (.tuple #[]), (.tuple #[]), (.tuple #[]), (.tuple #[]), (.tuple #[]), (.tuple #[]), (.tuple #[]), (.tuple #[]), (.tuple #[]), (.tuple #[]), (.tuple #[]), (.tuple #[]), (.tuple #[])]
def H4 : AHeap :=
  [(.cells false 5 [(.int .i64 0), (.int .i64 0), .nilFunc, .nilFunc, (.int .i64 0), (.int .i64 0), (.int .i64 64), (.func (.func 173) #[] #[]), (.func (.func 174) #[] #[]), (.int .i64 8192), (.int .i64 0), (.int .i64 0), .nilFunc, .nilFunc, (.int .i64 0), (.int .i64 (-1)), (.int .i64 1572864), (.func (.func 175) #[] #[]), (.func (.func 176) #[] #[]), (.int .i64 402653184)]), (.cells false 1 []), (.cells false 1 []), (.cells true 1 [(.int .i64 0), (.int .i64 10), (.int .i64 20), (.int .i64 40)]), (.cells true 0 [(.slice (some ⟨5, 0, none⟩) 3 3)]), (.cells true 2 [(.int .i64 0), (.int .i64 0), (.int .i64 2), (.int .i64 20), (.int .i64 3), (.int .i64 40)]), (.cells true 1 [(.int .i64 0), (.int .i64 10), (.int .i64 20), (.int .i64 40)]), (.cells true 1 [(.int .i64 0), (.int .i64 5), (.int .i64 10), (.int .i64 15), (.int .i64 20), (.int .i64 25), (.int .i64 30), (.int .i64 35), (.int .i64 40)]), (.cells true 0 [(.int .i64 3), (.int .i64 128)])]
def E5 : Env :=
  [(.bool false), (.int .i64 22609920), (.int .i64 1572864), (.int .i64 0), (.slice (some ⟨7, 0, none⟩) 9 9), (.int .i64 0), (.pointer (some ⟨8, 0, none⟩)), (.int .i64 0), (.int .i64 200), (.int .i64 0), (.tuple #[(.int .i64 22609920), (.int .i64 1572864), (.int .i64 0)]), (.slice (some ⟨3, 0, none⟩) 4 4), (.tuple #[(.int .i64 22609920), (.int .i64 1572864), (.int .i64 0)]), (.int .i64 22609920), (.int .i64 1572864), (.int .i64 0), (.tuple #[(.slice (some ⟨7, 0, none⟩) 9 9), (.int .i64 0)]), (.agg #[(.slice (some ⟨5, 0, none⟩) 3 3)]), (.agg #[(.int .i64 1), (.int .i64 1), (.int .i64 0), (.int .i64 0), (.int .i64 5), (.slice (some ⟨5, 0, none⟩) 3 3)]), (.slice (some ⟨6, 0, none⟩) 4 4), (.tuple #[(.slice (some ⟨7, 0, none⟩) 9 9), (.int .i64 0)]), (.slice (some ⟨7, 0, none⟩) 9 9), (.int .i64 0), (.tuple #[(.agg #[(.int .i64 3), (.int .i64 128)]), (.int .i64 0)]), (.tuple #[(.agg #[(.int .i64 3), (.int .i64 128)]), (.int .i64 0)]), (.agg #[(.int .i64 3), (.int .i64 128)]), (.int .i64 0), (.tuple #[(.int .i64 200), (.int .i64 0)]), (.agg #[(.int .i64 1), (.int .i64 0), (.int .i64 2)]), (.tuple #[(.int .i64 200), (.int .i64 0)]), (.int .i64 200), (.int .i64 0), (.tuple #[]), (.tuple #[]), (.tuple #[]), (.tuple #[]), (.tuple #[]), (.tuple #[]), (.tuple #[]), (.tuple #[]), (.tuple #[]), (.tuple #[]), (.tuple #[]), (.tuple #[]), (.tuple #[]), (.tuple #[]), (.tuple #[]), (.tuple #[]), (.tuple #[]), (.tuple #[]), (.tuple #[]), (.tuple #[]), (.tuple #[]), (.tuple #[]), (.tuple #[]), (.tuple #[]), (.tuple #[]), (.tuple #[]), (.tuple #[]), (.tuple #[]), (.tuple #[]), (.tuple #[]), (.tuple #[]), (.tuple #[]), (.tuple #[]), (.tuple #[]), (.tuple #[]), (.tuple #[])]
def H5 : AHeap :=
  [(.cells false 5 [(.int .i64 0), (.int .i64 0), .nilFunc, .nilFunc, (.int .i64 0), (.int .i64 0), (.int .i64 64), (.func (.func 173) #[] #[]), (.func (.func 174) #[] #[]), (.int .i64 8192), (.int .i64 0), (.int .i64 0), .nilFunc, .nilFunc, (.int .i64 0), (.int .i64 (-1)), (.int .i64 1572864), (.func (.func 175) #[] #[]), (.func (.func 176) #[] #[]), (.int .i64 402653184)]), (.cells false 1 []), (.cells false 1 []), (.cells true 1 [(.int .i64 0), (.int .i64 10), (.int .i64 20), (.int .i64 40)]), (.cells true 0 [(.slice (some ⟨5, 0, none⟩) 3 3)]), (.cells true 2 [(.int .i64 0), (.int .i64 0), (.int .i64 2), (.int .i64 20), (.int .i64 3), (.int .i64 40)]), (.cells true 1 [(.int .i64 0), (.int .i64 10), (.int .i64 20), (.int .i64 40)]), (.cells true 1 [(.int .i64 0), (.int .i64 5), (.int .i64 10), (.int .i64 15), (.int .i64 20), (.int .i64 25), (.int .i64 30), (.int .i64 35), (.int .i64 40)]), (.cells true 0 [(.int .i64 3), (.int .i64 128)])]
def E6 : Env :=
  [(.bool true), (.int .i64 22609920), (.int .i64 1572864), (.int .i64 0), (.slice (some ⟨7, 0, none⟩) 9 9), (.int .i64 0), (.pointer (some ⟨8, 0, none⟩)), (.int .i64 0), (.int .i64 200), (.int .i64 0), (.tuple #[(.int .i64 22609920), (.int .i64 1572864), (.int .i64 0)]), (.slice (some ⟨3, 0, none⟩) 4 4), (.tuple #[(.int .i64 22609920), (.int .i64 1572864), (.int .i64 0)]), (.int .i64 22609920), (.int .i64 1572864), (.int .i64 0), (.tuple #[(.slice (some ⟨7, 0, none⟩) 9 9), (.int .i64 0)]), (.agg #[(.slice (some ⟨5, 0, none⟩) 3 3)]), (.agg #[(.int .i64 1), (.int .i64 1), (.int .i64 0), (.int .i64 0), (.int .i64 5), (.slice (some ⟨5, 0, none⟩) 3 3)]), (.slice (some ⟨6, 0, none⟩) 4 4), (.tuple #[(.slice (some ⟨7, 0, none⟩) 9 9), (.int .i64 0)]), (.slice (some ⟨7, 0, none⟩) 9 9), (.int .i64 0), (.tuple #[(.agg #[(.int .i64 3), (.int .i64 128)]), (.int .i64 0)]), (.tuple #[(.agg #[(.int .i64 3), (.int .i64 128)]), (.int .i64 0)]), (.agg #[(.int .i64 3), (.int .i64 128)]), (.int .i64 0), (.tuple #[(.int .i64 200), (.int .i64 0)]), (.agg #[(.int .i64 1), (.int .i64 0), (.int .i64 2)]), (.tuple #[(.int .i64 200), (.int .i64 0)]), (.int .i64 200), (.int .i64 0), (.int .i64 0), (.bool true), (.bool true), (.int .i64 22609920), (.bool true), (.bool true), (.bool true), (.int .i64 1572864), (.bool true), (.bool true), (.bool true), (.int .i64 0), (.bool true), (.bool true), (.bool true), (.slice (some ⟨7, 0, none⟩) 9 9), (.slice (some ⟨9, 0, none⟩) 9 9), (.bool true), (.bool true), (.bool true), (.int .i64 0), (.bool true), (.bool true), (.bool true), (.agg #[(.int .i64 3), (.int .i64 128)]), (.agg #[(.int .i64 3), (.int .i64 128)]), (.bool true), (.bool true), (.bool true), (.int .i64 0), (.bool true), (.bool true), (.bool true), (.int .i64 200), (.bool true), (.bool true)]
def H6 : AHeap :=
  [(.cells false 5 [(.int .i64 0), (.int .i64 0), .nilFunc, .nilFunc, (.int .i64 0), (.int .i64 0), (.int .i64 64), (.func (.func 173) #[] #[]), (.func (.func 174) #[] #[]), (.int .i64 8192), (.int .i64 0), (.int .i64 0), .nilFunc, .nilFunc, (.int .i64 0), (.int .i64 (-1)), (.int .i64 1572864), (.func (.func 175) #[] #[]), (.func (.func 176) #[] #[]), (.int .i64 402653184)]), (.cells false 1 []), (.cells false 1 []), (.cells true 1 [(.int .i64 0), (.int .i64 10), (.int .i64 20), (.int .i64 40)]), (.cells true 0 [(.slice (some ⟨5, 0, none⟩) 3 3)]), (.cells true 2 [(.int .i64 0), (.int .i64 0), (.int .i64 2), (.int .i64 20), (.int .i64 3), (.int .i64 40)]), (.cells true 1 [(.int .i64 0), (.int .i64 10), (.int .i64 20), (.int .i64 40)]), (.cells true 1 [(.int .i64 0), (.int .i64 5), (.int .i64 10), (.int .i64 15), (.int .i64 20), (.int .i64 25), (.int .i64 30), (.int .i64 35), (.int .i64 40)]), (.cells true 0 [(.int .i64 3), (.int .i64 128)]), (.cells true 1 [(.int .i64 0), (.int .i64 5), (.int .i64 10), (.int .i64 15), (.int .i64 20), (.int .i64 25), (.int .i64 30), (.int .i64 35), (.int .i64 40)])]
theorem awake0 : run TA colO 2000 (.code (nth 0 R20.code) none E0) H0 = some (.normal, E1, H1, 1000000000000) := by kernel_rfl
theorem awake1 : run TA colO 2000 (.code (nth 1 R20.code) none E1) H1 = some (.normal, E2, H2, 1000000000000) := by kernel_rfl
theorem awake2 : run TA colO 2000 (.code (nth 2 R20.code) none E2) H2 = some (.normal, E3, H3, 4) := by kernel_rfl
theorem awake3 : run TA colO 2000 (.code (nth 3 R20.code) none E3) H3 = some (.normal, E4, H4, 8) := by kernel_rfl
theorem awake4 : run TA colO 2000 (.code (nth 4 R20.code) none E4) H4 = some (.normal, E5, H5, 1000000000000) := by kernel_rfl
theorem awake5 : run TA colO 2000 (.code (nth 5 R20.code) none E5) H5 = some (.normal, E6, H6, 1000000000000) := by kernel_rfl
end Go.Lq

namespace Go.Lq
open Go

theorem soundO : SoundO Go.Proofs.Tryd.prog colO := by
  intro fv args B v h N
  cases h

theorem awp_run {n : Nat} {c : RCode} {ar : Option Nat} {e e' : Env} {H H' : AHeap} {x : AExit} {lo : Nat} {Q : AExit → Env → AHeap → Prop}
    (h : run TA colO n (.code c ar e) H = some (x, e', H', lo)) (k : Q x e' H') : AWP Go.Proofs.Tryd.prog ar c Q e H :=
  CodeSound.awp (run_sound mo soundTA soundO n _ _ _ _ _ _ h).2 k

theorem awake0_c : ACall Go.Proofs.Tryd.prog 20 [] H0 fun v H => v = .bool true ∧ H = H0 := by
  refine ACall.drop (.bool _) ?_
  refine a20 ?_
  show AWP _ _ _ _ E0 H0
  refine awp_seq (awp_run awake0 ?_)
  refine awp_seq (awp_run awake1 ?_)
  refine awp_seq (awp_run awake2 ?_)
  refine awp_seq (awp_run awake3 ?_)
  refine awp_seq (awp_run awake4 ?_)
  refine awp_seq (awp_run awake5 ?_)
  refine awp_ret ?_
  refine fin_1 ⟨rfl, ?_⟩
  exact ⟨H6.drop 3, rfl⟩

theorem own0 : OwnHeap H0 := by
  intro i x hx
  match i with
  | 0 =>
    simp only [H0, List.getElem?_cons_zero, Option.some.injEq] at hx
    subst hx
    intro v hv
    simp only [kernelCells, List.mem_cons, List.not_mem_nil, or_false] at hv
    rcases hv with rfl | rfl | rfl | rfl | rfl | rfl | rfl | rfl | rfl | rfl | rfl | rfl | rfl | rfl | rfl | rfl | rfl | rfl | rfl | rfl <;> first | exact .int _ _ | exact fn_ren _ _ _ | constructor
  | 1 => simp only [H0, List.getElem?_cons_succ, List.getElem?_cons_zero, Option.some.injEq] at hx; subst hx; intro v hv; cases hv
  | 2 => simp only [H0, List.getElem?_cons_succ, List.getElem?_cons_zero, Option.some.injEq] at hx; subst hx; intro v hv; cases hv
  | i + 3 => simp [H0] at hx

theorem globals_size : Go.Proofs.Tryd.prog.globals.size = 3 := by kernel_rfl

theorem awake_c {H : AHeap} (h : Ext H0 H) : ACall Go.Proofs.Tryd.prog 20 [] H fun v H' => v = .bool true ∧ H' = H := by
  obtain ⟨M, rfl⟩ := h
  exact ACall.frame (by rw [globals_size]; decide) own0 (fun x hx => by cases hx) (.bool _) awake0_c M
end Go.Lq

namespace Go.Lq
open Go Go.ChangeShapes Go.WideShapes Go.ChangeAt Go.RowKit
open Go.Proofs

theorem own_knob : ownKnob Tryd.prog.godebug = none := by kernel_rfl
theorem laid_out : laidOutB Tryd.prog = true := by kernel_rfl
theorem gKernels : Tryd.prog.globalNamed "lacquer/resample.kernels" = some 0 := by kernel_rfl
theorem tKernels : (Tryd.prog.globals[0]?).map (·.type) = some 136 := by kernel_rfl
def laidAll : List (String × DataW Unit) := [("lacquer/resample.kernels", YtlcfgealkjomnaaDoor.Rows.laid_lacquer_resample_kernels)]

theorem door_met (os : Os) (args : Array Value) : laidMetH Tryd.prog laidAll ((World.doorLaid Tryd.prog 400 os).forCall (fun _ _ => 0) ⟨#[], args, []⟩).memory :=
  laidMetH_of_parts3 (fuel := 8) (laidMet_of_run' 8 (by kernel_rfl) (by kernel_rfl)) (by kernel_rfl) (by kernel_rfl)

theorem door_shaped (os : Os) (args : Array Value) : ((World.doorLaid Tryd.prog 400 os).forCall (fun _ _ => 0) ⟨#[], args, []⟩).Shaped Tryd.prog := World.shaped_of_RefB (by kernel_rfl) (by kernel_rfl)

def fnTab : List (List UInt8 × FuncId) := [("lacquer/resample.linear".toUTF8.data.toList, 173), ("lacquer/resample.kernels$1".toUTF8.data.toList, 174),
  ("lacquer/resample.cubic".toUTF8.data.toList, 175), ("lacquer/resample.kernels$2".toUTF8.data.toList, 176)]
theorem fnTab_ok : tabOk Tryd.prog fnTab = true := by kernel_rfl

theorem looks0 : false = Tryd.prog.looks [] := by kernel_rfl
theorem may_enter : Tryd.prog.mayEnter = true := by kernel_rfl
theorem stops_heard : Tryd.prog.stopsHeard = true := by kernel_rfl
theorem maps_rowed : mapsRowed Tryd.prog = true := by kernel_rfl
theorem main_is : Tryd.prog.mainIs = some (true, "9403e86e1dc287bd0cb4ee71274230f6f4c5733d4f08721e5e779bfd75daaf91".toList) := by kernel_rfl

theorem glob_block {W : World} (hsh : W.ShapedOpen Tryd.prog) {g : Nat} (hg : g < Tryd.prog.globals.size) (h0 : (((begin Tryd.prog (fun _ _ => 0) default).world.heap[g]?).bind Obj.row?).isSome = true) : ∃ cs t, W.heap[g]? = some (.cells cs t) := by
  obtain ⟨⟨zero, t⟩, e⟩ := Option.isSome_iff_exists.1 h0
  obtain ⟨cs, h, _⟩ := hsh.1 g zero t hg e
  exact ⟨cs, t, h⟩

theorem of_laid {W : World} (h : laidMetH Tryd.prog laidAll W) (hsh : W.ShapedOpen Tryd.prog) : Laid W [⟨0, 0, 0⟩, ⟨1, 0, 0⟩, ⟨2, 0, 0⟩] H0 := by
  obtain ⟨g0, t0, cs0, f0, p0, hg0, ht0, hv0, hd0⟩ := h.funcs (List.mem_singleton.2 rfl)
  obtain rfl := Option.some.inj (gKernels.symm.trans hg0)
  obtain rfl := Option.some.inj (tKernels.symm.trans ht0)
  have hcs := flatF_of fnTab_ok 5 _ _ _ _ hd0 (by kernel_rfl) (by kernel_rfl)
  obtain ⟨c1, t1, k1⟩ := glob_block (g := 1) hsh (by rw [globals_size]; decide) (by kernel_rfl)
  obtain ⟨c2, t2, k2⟩ := glob_block (g := 2) hsh (by rw [globals_size]; decide) (by kernel_rfl)
  unfold World.var? at hv0
  rw [gKernels] at hv0
  simp only [Option.bind_some] at hv0
  split at hv0
  · rename_i cs t fz hh
    cases hv0
    have b0 : Laid W [⟨0, 0, 0⟩] [.cells false 5 kernelCells] := (Laid.none W).push (p := ⟨0, 0, 0⟩) (esz := 5) hh fun k v hk => ⟨v, by
      have e : cs0.toList = kernelCells := hcs.symm.trans (by kernel_rfl)
      rw [Nat.zero_add, ← hk, ← e]; simp, by
      have hm := List.mem_of_getElem? hk
      simp only [kernelCells, List.mem_cons, List.not_mem_nil, or_false] at hm
      rcases hm with rfl | rfl | rfl | rfl | rfl | rfl | rfl | rfl | rfl | rfl | rfl | rfl | rfl | rfl | rfl | rfl | rfl | rfl | rfl | rfl <;> first | exact .int _ _ | exact fn_vr _ _ | constructor⟩
    exact (b0.blank k1 1 0).blank k2 1 0
  · cases hv0

theorem globs : Tryd.prog.globals.size ≤ H0.length := by rw [globals_size]; decide
theorem glob_at : ∀ g, g < Tryd.prog.globals.size → ∃ r, ([⟨0, 0, 0⟩, ⟨1, 0, 0⟩, ⟨2, 0, 0⟩] : List ALoc)[g]? = some ⟨g, 0, r⟩ := fun g hg => by
  rw [globals_size] at hg
  match g, hg with
  | 0, _ => exact ⟨0, rfl⟩
  | 1, _ => exact ⟨0, rfl⟩
  | 2, _ => exact ⟨0, rfl⟩
end Go.Lq

namespace Go.Lq
open Go Go.ChangeShapes Go.WideShapes Go.ChangeAt Go.RowKit
open Go.Proofs
theorem lifts_final : Tryd.prog.liftsFinal = YtlcfgealkjomnaaDoor.Rows.resampleFiltersRow.lifted := by kernel_rfl
theorem make_is : Tryd.prog.make = some YtlcfgealkjomnaaDoor.Rows.resampleFiltersRow.make := by kernel_rfl
end Go.Lq

namespace Go.Lq
open Go

section
variable {H : AHeap}

theorem within_c (n lo hi : Int) : ACall Go.Proofs.Tryd.prog 94 [.int .i64 n, .int .i64 lo, .int .i64 hi] H fun v H' => v = .bool (decide (lo ≤ n ∧ n ≤ hi)) ∧ H' = H := by
  (refine a94 ?_; simp only [n94, List.replicate, List.length_cons, List.length_nil, List.cons_append, List.nil_append]; first | refine q1 ?_ | refine q2 ?_ | refine q6 ?_ | refine q7 ?_ | refine qh rfl ?_ | skip)
  (repeat (first | refine ya (by (with_reducible constructor) <;> first | rfl | decide) ?_ | apply yb | refine yc rfl ?_)); (refine aops_until (by simp (disch := first | exact List.all_nil | omega | (simp only [go_sem]; done) | (simp only [ln, List.length_map]; omega) | (repeat' first | assumption | exact Ext.refl _ | refine Ext.app ?_ _)) only [go_sem]; with_reducible rfl) ?_); (repeat (first | refine ya (by (with_reducible constructor) <;> first | rfl | decide) ?_ | apply yb | refine yc rfl ?_))
  by_cases h : lo ≤ n
  · (refine aops_until (by simp (disch := first | exact List.all_nil | omega | (simp only [go_sem]; done) | (simp only [ln, List.length_map]; omega) | (repeat' first | assumption | exact Ext.refl _ | refine Ext.app ?_ _)) only [go_sem, h]; with_reducible rfl) ?_)
    (repeat (first | refine ya (by (with_reducible constructor) <;> first | rfl | decide) ?_ | apply yb | refine yc rfl ?_))
    refine fin_1 ⟨?_, rfl⟩
    simp [h]
  · (refine aops_until (by simp (disch := first | exact List.all_nil | omega | (simp only [go_sem]; done) | (simp only [ln, List.length_map]; omega) | (repeat' first | assumption | exact Ext.refl _ | refine Ext.app ?_ _)) only [go_sem, h]; with_reducible rfl) ?_)
    (repeat (first | refine ya (by (with_reducible constructor) <;> first | rfl | decide) ?_ | apply yb | refine yc rfl ?_))
    refine fin_1 ⟨?_, rfl⟩
    simp [h]

theorem bwithin_c (n lo hi : Int) : ACall Go.Proofs.Tryd.prog 30 [.int .i64 n, .int .i64 lo, .int .i64 hi] H fun v H' => v = .bool (decide (lo ≤ n ∧ n ≤ hi)) ∧ H' = H := by
  (refine a30 ?_; simp only [n30, List.replicate, List.length_cons, List.length_nil, List.cons_append, List.nil_append]; first | refine q1 ?_ | refine q2 ?_ | refine q6 ?_ | refine q7 ?_ | refine qh rfl ?_ | skip)
  (repeat (first | refine ya (by (with_reducible constructor) <;> first | rfl | decide) ?_ | apply yb | refine yc rfl ?_)); (refine aops_until (by simp (disch := first | exact List.all_nil | omega | (simp only [go_sem]; done) | (simp only [ln, List.length_map]; omega) | (repeat' first | assumption | exact Ext.refl _ | refine Ext.app ?_ _)) only [go_sem]; with_reducible rfl) ?_); (repeat (first | refine ya (by (with_reducible constructor) <;> first | rfl | decide) ?_ | apply yb | refine yc rfl ?_))
  by_cases h : lo ≤ n
  · (refine aops_until (by simp (disch := first | exact List.all_nil | omega | (simp only [go_sem]; done) | (simp only [ln, List.length_map]; omega) | (repeat' first | assumption | exact Ext.refl _ | refine Ext.app ?_ _)) only [go_sem, h]; with_reducible rfl) ?_)
    (repeat (first | refine ya (by (with_reducible constructor) <;> first | rfl | decide) ?_ | apply yb | refine yc rfl ?_))
    refine fin_1 ⟨?_, rfl⟩
    simp [h]
  · (refine aops_until (by simp (disch := first | exact List.all_nil | omega | (simp only [go_sem]; done) | (simp only [ln, List.length_map]; omega) | (repeat' first | assumption | exact Ext.refl _ | refine Ext.app ?_ _)) only [go_sem, h]; with_reducible rfl) ?_)
    (repeat (first | refine ya (by (with_reducible constructor) <;> first | rfl | decide) ?_ | apply yb | refine yc rfl ?_))
    refine fin_1 ⟨?_, rfl⟩
    simp [h]

theorem isSized_c (n m : Int) (hm : -9223372036854775807 ≤ m ∧ m ≤ 9223372036854775807) : ACall Go.Proofs.Tryd.prog 118 [.int .i64 n, .int .i64 m] H fun v H' => v = .bool (decide (-m ≤ n ∧ n ≤ m)) ∧ H' = H := by
  (refine a118 ?_; simp only [n118, List.replicate, List.length_cons, List.length_nil, List.cons_append, List.nil_append]; first | refine q1 ?_ | refine q2 ?_ | refine q6 ?_ | refine q7 ?_ | refine qh rfl ?_ | skip)
  (repeat (first | refine ya (by (with_reducible constructor) <;> first | rfl | decide) ?_ | apply yb | refine yc rfl ?_)); (refine aops_until (by simp (disch := first | exact List.all_nil | omega | (simp only [go_sem]; done) | (simp only [ln, List.length_map]; omega) | (repeat' first | assumption | exact Ext.refl _ | refine Ext.app ?_ _)) only [go_sem]; with_reducible rfl) ?_); (repeat (first | refine ya (by (with_reducible constructor) <;> first | rfl | decide) ?_ | apply yb | refine yc rfl ?_))
  (refine aops_until (by simp (disch := first | exact List.all_nil | omega | (simp only [go_sem]; done) | (simp only [ln, List.length_map]; omega) | (repeat' first | assumption | exact Ext.refl _ | refine Ext.app ?_ _)) only [go_sem]; with_reducible rfl) ?_)
  refine aops_call_to (within_c _ _ _) ?_
  (refine aops_until (by simp (disch := first | exact List.all_nil | omega | (simp only [go_sem]; done) | (simp only [ln, List.length_map]; omega) | (repeat' first | assumption | exact Ext.refl _ | refine Ext.app ?_ _)) only [go_sem]; with_reducible rfl) ?_)
  (repeat (first | refine ya (by (with_reducible constructor) <;> first | rfl | decide) ?_ | apply yb | refine yc rfl ?_))
  refine fin_1 ⟨?_, rfl⟩
  simp

theorem unless_c (b : Bool) (e : Int) : ACall Go.Proofs.Tryd.prog 93 [.bool b, .int .i64 e] H fun v H' => v = .int .i64 (if b then 0 else e) ∧ H' = H := by
  (refine a93 ?_; simp only [n93, List.replicate, List.length_cons, List.length_nil, List.cons_append, List.nil_append]; first | refine q1 ?_ | refine q2 ?_ | refine q6 ?_ | refine q7 ?_ | refine qh rfl ?_ | skip)
  (repeat (first | refine ya (by (with_reducible constructor) <;> first | rfl | decide) ?_ | apply yb | refine yc rfl ?_)); (refine aops_until (by simp (disch := first | exact List.all_nil | omega | (simp only [go_sem]; done) | (simp only [ln, List.length_map]; omega) | (repeat' first | assumption | exact Ext.refl _ | refine Ext.app ?_ _)) only [go_sem]; with_reducible rfl) ?_); (repeat (first | refine ya (by (with_reducible constructor) <;> first | rfl | decide) ?_ | apply yb | refine yc rfl ?_)); (refine aops_until (by simp (disch := first | exact List.all_nil | omega | (simp only [go_sem]; done) | (simp only [ln, List.length_map]; omega) | (repeat' first | assumption | exact Ext.refl _ | refine Ext.app ?_ _)) only [go_sem]; with_reducible rfl) ?_); (repeat (first | refine ya (by (with_reducible constructor) <;> first | rfl | decide) ?_ | apply yb | refine yc rfl ?_))
  cases b with
  | true =>
    refine cond_t rfl ?_
    (repeat (first | refine ya (by (with_reducible constructor) <;> first | rfl | decide) ?_ | apply yb | refine yc rfl ?_)); (refine aops_until (by simp (disch := first | exact List.all_nil | omega | (simp only [go_sem]; done) | (simp only [ln, List.length_map]; omega) | (repeat' first | assumption | exact Ext.refl _ | refine Ext.app ?_ _)) only [go_sem]; with_reducible rfl) ?_); (repeat (first | refine ya (by (with_reducible constructor) <;> first | rfl | decide) ?_ | apply yb | refine yc rfl ?_))
    exact fin_1 ⟨rfl, rfl⟩
  | false =>
    refine cond_f rfl ?_
    (repeat (first | refine ya (by (with_reducible constructor) <;> first | rfl | decide) ?_ | apply yb | refine yc rfl ?_)); (refine aops_until (by simp (disch := first | exact List.all_nil | omega | (simp only [go_sem]; done) | (simp only [ln, List.length_map]; omega) | (repeat' first | assumption | exact Ext.refl _ | refine Ext.app ?_ _)) only [go_sem]; with_reducible rfl) ?_); (repeat (first | refine ya (by (with_reducible constructor) <;> first | rfl | decide) ?_ | apply yb | refine yc rfl ?_))
    exact fin_1 ⟨rfl, rfl⟩

def firstErr (l : List Int) : Int := (l.find? (fun e => decide (e ≠ 0))).getD 0

theorem firstErr_nil : firstErr [] = 0 := rfl
theorem firstErr_z (l : List Int) : firstErr (0 :: l) = firstErr l := by simp [firstErr]
theorem firstErr_e {e : Int} (h : e ≠ 0) (l : List Int) : firstErr (e :: l) = e := by simp [firstErr, h]
theorem ite_tt {α : Type} (a b : α) : (if true = true then a else b) = a := rfl
theorem ite_ft {α : Type} (a b : α) : (if false = true then a else b) = b := rfl
attribute [go_sem] firstErr_nil firstErr_z firstErr_e ite_tt ite_ft if_true if_false

theorem first_c {l : List Int} {v : Value} (hl : Ints H l v) (hb : l.length ≤ 1000000) : ACall Go.Proofs.Tryd.prog 88 [v] H fun v H' => v = .int .i64 (firstErr l) ∧ H' = H := by
  (refine a88 ?_; simp only [n88, List.replicate, List.length_cons, List.length_nil, List.cons_append, List.nil_append]; first | refine q1 ?_ | refine q2 ?_ | refine q6 ?_ | refine q7 ?_ | refine qh rfl ?_ | skip)
  (repeat (first | refine ya (by (with_reducible constructor) <;> first | rfl | decide) ?_ | apply yb | refine yc rfl ?_)); (refine aops_until (by simp (disch := first | exact List.all_nil | omega | (simp only [go_sem]; done) | (simp only [ln, List.length_map]; omega) | (repeat' first | assumption | exact Ext.refl _ | refine Ext.app ?_ _)) only [go_sem]; with_reducible rfl) ?_); (repeat (first | refine ya (by (with_reducible constructor) <;> first | rfl | decide) ?_ | apply yb | refine yc rfl ?_)); (refine aops_until (by simp (disch := first | exact List.all_nil | omega | (simp only [go_sem]; done) | (simp only [ln, List.length_map]; omega) | (repeat' first | assumption | exact Ext.refl _ | refine Ext.app ?_ _)) only [go_sem, hl.len, hl.idx, hl.load]; with_reducible rfl) ?_); (repeat (first | refine ya (by (with_reducible constructor) <;> first | rfl | decide) ?_ | apply yb | refine yc rfl ?_))
  refine awp_loop_n [true, false, true, false, false, true, true, true, false, false, false, false, false, false, false] l.length (fun i e H' => H' = H ∧ e = [v, junk, .int .i64 0, junk, junk, v, .int .i64 l.length, .int .i64 i, junk, junk, junk, junk, junk, junk, junk] ∧ ∀ j < i, l.getD j 0 = 0) ?_ ?_
  · exact ⟨rfl, rfl, by omega⟩
  · rintro i e H' hi ⟨rfl, rfl, hp⟩
    (repeat (first | refine ya (by (with_reducible constructor) <;> first | rfl | decide) ?_ | apply yb | refine yc rfl ?_)); (refine aops_until (by simp (disch := first | exact List.all_nil | omega | (simp only [go_sem]; done) | (simp only [ln, List.length_map]; omega) | (repeat' first | assumption | exact Ext.refl _ | refine Ext.app ?_ _)) only [go_sem, hl.len, hl.idx, hl.load]; with_reducible rfl) ?_); (repeat (first | refine ya (by (with_reducible constructor) <;> first | rfl | decide) ?_ | apply yb | refine yc rfl ?_))
    refine cond_p rfl (fun hlt => ?_) (fun hge => ?_)
    · (repeat (first | refine ya (by (with_reducible constructor) <;> first | rfl | decide) ?_ | apply yb | refine yc rfl ?_)); (refine aops_until (by simp (disch := first | exact List.all_nil | omega | (simp only [go_sem]; done) | (simp only [ln, List.length_map]; omega) | (repeat' first | assumption | exact Ext.refl _ | refine Ext.app ?_ _)) only [go_sem, hl.len, hl.idx, hl.load]; with_reducible rfl) ?_); (repeat (first | refine ya (by (with_reducible constructor) <;> first | rfl | decide) ?_ | apply yb | refine yc rfl ?_)); (refine aops_until (by simp (disch := first | exact List.all_nil | omega | (simp only [go_sem]; done) | (simp only [ln, List.length_map]; omega) | (repeat' first | assumption | exact Ext.refl _ | refine Ext.app ?_ _)) only [go_sem]; with_reducible rfl) ?_); (repeat (first | refine ya (by (with_reducible constructor) <;> first | rfl | decide) ?_ | apply yb | refine yc rfl ?_))
      refine cond_p rfl (fun hne => ?_) (fun heq => ?_)
      · (repeat (first | refine ya (by (with_reducible constructor) <;> first | rfl | decide) ?_ | apply yb | refine yc rfl ?_)); (refine aops_until (by simp (disch := first | exact List.all_nil | omega | (simp only [go_sem]; done) | (simp only [ln, List.length_map]; omega) | (repeat' first | assumption | exact Ext.refl _ | refine Ext.app ?_ _)) only [go_sem]; with_reducible rfl) ?_); (repeat (first | refine ya (by (with_reducible constructor) <;> first | rfl | decide) ?_ | apply yb | refine yc rfl ?_))
        refine fin_1 ⟨?_, rfl⟩
        unfold firstErr
        rw [find_at (d := 0) (i := i) (by omega) (fun j hj => by simpa using hp j hj) (by simpa using hne)]
        rfl
      · (repeat (first | refine ya (by (with_reducible constructor) <;> first | rfl | decide) ?_ | apply yb | refine yc rfl ?_)); (refine aops_until (by simp (disch := first | exact List.all_nil | omega | (simp only [go_sem]; done) | (simp only [ln, List.length_map]; omega) | (repeat' first | assumption | exact Ext.refl _ | refine Ext.app ?_ _)) only [go_sem]; with_reducible rfl) ?_); (repeat (first | refine ya (by (with_reducible constructor) <;> first | rfl | decide) ?_ | apply yb | refine yc rfl ?_))
        refine ⟨by omega, rfl, ?_, fun j hj => ?_⟩
        · simp [forget]
        · by_cases h : j = i
          · subst h; simpa using heq
          · exact hp j (by omega)
    · (repeat (first | refine ya (by (with_reducible constructor) <;> first | rfl | decide) ?_ | apply yb | refine yc rfl ?_)); (refine aops_until (by simp (disch := first | exact List.all_nil | omega | (simp only [go_sem]; done) | (simp only [ln, List.length_map]; omega) | (repeat' first | assumption | exact Ext.refl _ | refine Ext.app ?_ _)) only [go_sem]; with_reducible rfl) ?_); (repeat (first | refine ya (by (with_reducible constructor) <;> first | rfl | decide) ?_ | apply yb | refine yc rfl ?_))
      refine fin_1 ⟨?_, rfl⟩
      unfold firstErr
      rw [find_none (d := 0) (fun j hj => by simpa using hp j (by omega))]
      rfl

def Asks (fv : Value) (p : Int → Bool) : Prop := ∀ n H, AInvoke Go.Proofs.Tryd.prog fv [.int .i64 n] H fun v H' => v = .bool (p n) ∧ H' = H

theorem indexFunc_c {l : List Int} {v fv : Value} {p : Int → Bool} (hl : Ints H l v) (hf : Asks fv p) (hb : l.length ≤ 1000000000) :
    ACall Go.Proofs.Tryd.prog 143 [v, fv] H fun v H' => (∃ i : Int, v = .int .i64 i ∧ (l.any p = decide (0 ≤ i))) ∧ H' = H := by
  (refine a143 ?_; simp only [n143, List.replicate, List.length_cons, List.length_nil, List.cons_append, List.nil_append]; first | refine q1 ?_ | refine q2 ?_ | refine q6 ?_ | refine q7 ?_ | refine qh rfl ?_ | skip)
  (repeat (first | refine ya (by (with_reducible constructor) <;> first | rfl | decide) ?_ | apply yb | refine yc rfl ?_)); (refine aops_until (by simp (disch := first | exact List.all_nil | omega | (simp only [go_sem]; done) | (simp only [ln, List.length_map]; omega) | (repeat' first | assumption | exact Ext.refl _ | refine Ext.app ?_ _)) only [go_sem]; with_reducible rfl) ?_); (repeat (first | refine ya (by (with_reducible constructor) <;> first | rfl | decide) ?_ | apply yb | refine yc rfl ?_)); (refine aops_until (by simp (disch := first | exact List.all_nil | omega | (simp only [go_sem]; done) | (simp only [ln, List.length_map]; omega) | (repeat' first | assumption | exact Ext.refl _ | refine Ext.app ?_ _)) only [go_sem, hl.len, hl.idx, hl.load]; with_reducible rfl) ?_); (repeat (first | refine ya (by (with_reducible constructor) <;> first | rfl | decide) ?_ | apply yb | refine yc rfl ?_))
  refine awp_loop_n [true, true, false, false, true, false, true, true, true, false, false, false, false, false, false, false, false, false, false] l.length (fun i e H' => H' = H ∧ e = [v, fv, junk, junk, .int .i64 0, junk, v, .int .i64 l.length, .int .i64 i, junk, junk, junk, junk, junk, junk, junk, junk, junk, junk] ∧ ∀ j < i, p (l.getD j 0) = false) ?_ ?_
  · exact ⟨rfl, rfl, by omega⟩
  · rintro i e H' hi ⟨rfl, rfl, hp⟩
    (repeat (first | refine ya (by (with_reducible constructor) <;> first | rfl | decide) ?_ | apply yb | refine yc rfl ?_)); (refine aops_until (by simp (disch := first | exact List.all_nil | omega | (simp only [go_sem]; done) | (simp only [ln, List.length_map]; omega) | (repeat' first | assumption | exact Ext.refl _ | refine Ext.app ?_ _)) only [go_sem, hl.len, hl.idx, hl.load]; with_reducible rfl) ?_); (repeat (first | refine ya (by (with_reducible constructor) <;> first | rfl | decide) ?_ | apply yb | refine yc rfl ?_))
    refine cond_p rfl (fun hlt => ?_) (fun hge => ?_)
    · (repeat (first | refine ya (by (with_reducible constructor) <;> first | rfl | decide) ?_ | apply yb | refine yc rfl ?_)); (refine aops_until (by simp (disch := first | exact List.all_nil | omega | (simp only [go_sem]; done) | (simp only [ln, List.length_map]; omega) | (repeat' first | assumption | exact Ext.refl _ | refine Ext.app ?_ _)) only [go_sem, hl.len, hl.idx, hl.load]; with_reducible rfl) ?_); (repeat (first | refine ya (by (with_reducible constructor) <;> first | rfl | decide) ?_ | apply yb | refine yc rfl ?_)); (refine aops_until (by simp (disch := first | exact List.all_nil | omega | (simp only [go_sem]; done) | (simp only [ln, List.length_map]; omega) | (repeat' first | assumption | exact Ext.refl _ | refine Ext.app ?_ _)) only [go_sem, hl.len, hl.idx, hl.load]; with_reducible rfl) ?_)
      refine aops_call_to (hf _ _) ?_
      (refine aops_until (by simp (disch := first | exact List.all_nil | omega | (simp only [go_sem]; done) | (simp only [ln, List.length_map]; omega) | (repeat' first | assumption | exact Ext.refl _ | refine Ext.app ?_ _)) only [go_sem]; with_reducible rfl) ?_); (repeat (first | refine ya (by (with_reducible constructor) <;> first | rfl | decide) ?_ | apply yb | refine yc rfl ?_))
      cases hq : p (l.getD i 0) with
      | true =>
        refine cond_t (by rw [← hq]; rfl) ?_
        (repeat (first | refine ya (by (with_reducible constructor) <;> first | rfl | decide) ?_ | apply yb | refine yc rfl ?_)); (refine aops_until (by simp (disch := first | exact List.all_nil | omega | (simp only [go_sem]; done) | (simp only [ln, List.length_map]; omega) | (repeat' first | assumption | exact Ext.refl _ | refine Ext.app ?_ _)) only [go_sem]; with_reducible rfl) ?_); (repeat (first | refine ya (by (with_reducible constructor) <;> first | rfl | decide) ?_ | apply yb | refine yc rfl ?_))
        refine fin_1 ⟨⟨i, rfl, ?_⟩, rfl⟩
        rw [any_at (d := 0) (i := i) (by omega) hq]
        simp
      | false =>
        refine cond_f (by rw [← hq]; rfl) ?_
        (repeat (first | refine ya (by (with_reducible constructor) <;> first | rfl | decide) ?_ | apply yb | refine yc rfl ?_)); (refine aops_until (by simp (disch := first | exact List.all_nil | omega | (simp only [go_sem]; done) | (simp only [ln, List.length_map]; omega) | (repeat' first | assumption | exact Ext.refl _ | refine Ext.app ?_ _)) only [go_sem]; with_reducible rfl) ?_); (repeat (first | refine ya (by (with_reducible constructor) <;> first | rfl | decide) ?_ | apply yb | refine yc rfl ?_))
        refine ⟨by omega, rfl, ?_, fun j hj => ?_⟩
        · simp [forget]
        · by_cases h : j = i
          · subst h; exact hq
          · exact hp j (by omega)
    · (repeat (first | refine ya (by (with_reducible constructor) <;> first | rfl | decide) ?_ | apply yb | refine yc rfl ?_)); (refine aops_until (by simp (disch := first | exact List.all_nil | omega | (simp only [go_sem]; done) | (simp only [ln, List.length_map]; omega) | (repeat' first | assumption | exact Ext.refl _ | refine Ext.app ?_ _)) only [go_sem]; with_reducible rfl) ?_); (repeat (first | refine ya (by (with_reducible constructor) <;> first | rfl | decide) ?_ | apply yb | refine yc rfl ?_))
      refine fin_1 ⟨⟨-1, rfl, ?_⟩, rfl⟩
      rw [any_none (d := 0) fun j hj => hp j (by omega)]
      simp

theorem containsFunc_c {l : List Int} {v fv : Value} {p : Int → Bool} (hl : Ints H l v) (hf : Asks fv p) (hb : l.length ≤ 1000000000) :
    ACall Go.Proofs.Tryd.prog 113 [v, fv] H fun v H' => v = .bool (l.any p) ∧ H' = H := by
  (refine a113 ?_; simp only [n113, List.replicate, List.length_cons, List.length_nil, List.cons_append, List.nil_append]; first | refine q1 ?_ | refine q2 ?_ | refine q6 ?_ | refine q7 ?_ | refine qh rfl ?_ | skip)
  (repeat (first | refine ya (by (with_reducible constructor) <;> first | rfl | decide) ?_ | apply yb | refine yc rfl ?_)); (refine aops_until (by simp (disch := first | exact List.all_nil | omega | (simp only [go_sem]; done) | (simp only [ln, List.length_map]; omega) | (repeat' first | assumption | exact Ext.refl _ | refine Ext.app ?_ _)) only [go_sem]; with_reducible rfl) ?_); (repeat (first | refine ya (by (with_reducible constructor) <;> first | rfl | decide) ?_ | apply yb | refine yc rfl ?_)); (refine aops_until (by simp (disch := first | exact List.all_nil | omega | (simp only [go_sem]; done) | (simp only [ln, List.length_map]; omega) | (repeat' first | assumption | exact Ext.refl _ | refine Ext.app ?_ _)) only [go_sem]; with_reducible rfl) ?_)
  refine aops_call ((indexFunc_c hl hf hb).mono fun v1 H1 ⟨⟨i, h1, h2⟩, h3⟩ => ?_)
  subst h1; subst h3
  (refine aops_until (by simp (disch := first | exact List.all_nil | omega | (simp only [go_sem]; done) | (simp only [ln, List.length_map]; omega) | (repeat' first | assumption | exact Ext.refl _ | refine Ext.app ?_ _)) only [go_sem]; with_reducible rfl) ?_); (repeat (first | refine ya (by (with_reducible constructor) <;> first | rfl | decide) ?_ | apply yb | refine yc rfl ?_))
  refine fin_1 ⟨?_, rfl⟩
  simp [h2]

end
end Go.Lq

namespace Go.Lq

def nodeE (p n : Int × Int) : Int := firstErr [(if (0 ≤ n.1 ∧ n.1 ≤ 1000000) ∧ (0 ≤ n.2 ∧ n.2 ≤ 1000000000000) then 0 else 2), (if p.1 < n.1 ∧ p.2 < n.2 then 0 else 9)]
def ckGo (p : Int × Int) (i : Nat) : List (Int × Int) → Int × Int
  | [] => (0, 0)
  | n :: r => if nodeE p n ≠ 0 then (i, nodeE p n) else ckGo n (i + 1) r
def ckMap (l : List (Int × Int)) : Int × Int := if l.length < 2 then (0, 10) else if 20 < l.length then (0, 8) else ckGo (-1, -1) 0 l
def mapErrL (l : List (Int × Int)) : Int := (ckMap l).2
def prevAt (l : List (Int × Int)) (i : Nat) : Int × Int := if i = 0 then (-1, -1) else l.getD (i - 1) (0, 0)

theorem drop_pair {l : List (Int × Int)} {i : Nat} (h : i < l.length) : l.drop i = l.getD i (0, 0) :: l.drop (i + 1) := by
  rw [List.drop_eq_getElem_cons h, List.getD_eq_getElem?_getD, List.getElem?_eq_getElem h]; rfl
theorem prevAt_succ {l : List (Int × Int)} {i : Nat} : prevAt l (i + 1) = l.getD i (0, 0) := by unfold prevAt; rw [if_neg (by omega), Nat.add_sub_cancel]
theorem ckGo_at {l : List (Int × Int)} {i : Nat} (h : i < l.length) : ckGo (prevAt l i) i (l.drop i) = if nodeE (prevAt l i) (l.getD i (0, 0)) ≠ 0 then ((i : Int), nodeE (prevAt l i) (l.getD i (0, 0))) else ckGo (prevAt l (i + 1)) (i + 1) (l.drop (i + 1)) := by
  rw [drop_pair h, prevAt_succ]; rfl
theorem ckGo_end {p : Int × Int} {l : List (Int × Int)} {i : Nat} : ckGo p i (l.drop l.length) = (0, 0) := by rw [List.drop_length]; rfl
theorem nodeE_ok {p n : Int × Int} (h : nodeE p n = 0) : ((0 ≤ n.1 ∧ n.1 ≤ 1000000) ∧ (0 ≤ n.2 ∧ n.2 ≤ 1000000000000)) ∧ p.1 < n.1 ∧ p.2 < n.2 := by
  unfold nodeE firstErr at h
  by_cases h1 : (0 ≤ n.1 ∧ n.1 ≤ 1000000) ∧ (0 ≤ n.2 ∧ n.2 ≤ 1000000000000)
  · refine ⟨h1, ?_⟩
    by_cases h2 : p.1 < n.1 ∧ p.2 < n.2
    · exact h2
    · rw [if_pos h1, if_neg h2] at h; simp at h
  · rw [if_neg h1] at h; simp at h
theorem nodeE_r {p n : Int × Int} (h : ¬ ((0 ≤ n.1 ∧ n.1 ≤ 1000000) ∧ (0 ≤ n.2 ∧ n.2 ≤ 1000000000000))) : nodeE p n = 2 := by unfold nodeE firstErr; rw [if_neg h]; simp
theorem nodeE_o {p n : Int × Int} (h : (0 ≤ n.1 ∧ n.1 ≤ 1000000) ∧ (0 ≤ n.2 ∧ n.2 ≤ 1000000000000)) (h2 : ¬ (p.1 < n.1 ∧ p.2 < n.2)) : nodeE p n = 9 := by unfold nodeE firstErr; rw [if_pos h, if_neg h2]; simp
theorem nodeE_z {p n : Int × Int} (h : (0 ≤ n.1 ∧ n.1 ≤ 1000000) ∧ (0 ≤ n.2 ∧ n.2 ≤ 1000000000000)) (h2 : p.1 < n.1 ∧ p.2 < n.2) : nodeE p n = 0 := by unfold nodeE firstErr; rw [if_pos h, if_pos h2]; simp
theorem ckGo_from {l : List (Int × Int)} : ∀ {i : Nat}, (∀ j, j < i → nodeE (prevAt l j) (l.getD j (0, 0)) = 0) → i ≤ l.length → ckGo (-1, -1) 0 l = ckGo (prevAt l i) i (l.drop i)
  | 0, _, _ => rfl
  | i + 1, h, hi => by
    rw [ckGo_from (i := i) (fun j hj => h j (by omega)) (by omega), ckGo_at (by omega), if_neg (by rw [h i (by omega)]; simp)]
theorem ckGo_ok {l : List (Int × Int)} : ∀ {k i : Nat}, i + k = l.length → (ckGo (prevAt l i) i (l.drop i)).2 = 0 → ∀ j, i ≤ j → j < l.length → nodeE (prevAt l j) (l.getD j (0, 0)) = 0
  | 0, i, hk, _, j, h1, h2 => by omega
  | k + 1, i, hk, h, j, h1, h2 => by
    rw [ckGo_at (by omega)] at h
    by_cases he : nodeE (prevAt l i) (l.getD i (0, 0)) = 0
    · rw [if_neg (by rw [he]; simp)] at h
      by_cases hj : j = i
      · subst hj; exact he
      · exact ckGo_ok (k := k) (i := i + 1) (by omega) h j (by omega) h2
    · rw [if_pos he] at h; exact absurd h he

structure MapOk (l : List (Int × Int)) : Prop where
  lo : 2 ≤ l.length
  hi : l.length ≤ 20
  pos : ∀ i, i < l.length → 0 ≤ (l.getD i (0, 0)).1 ∧ (l.getD i (0, 0)).1 ≤ 1000000
  time : ∀ i, i < l.length → 0 ≤ (l.getD i (0, 0)).2 ∧ (l.getD i (0, 0)).2 ≤ 1000000000000
  posUp : ∀ i, i + 1 < l.length → (l.getD i (0, 0)).1 < (l.getD (i + 1) (0, 0)).1
  timeUp : ∀ i, i + 1 < l.length → (l.getD i (0, 0)).2 < (l.getD (i + 1) (0, 0)).2
theorem mapErr_ok {l : List (Int × Int)} (h : mapErrL l = 0) : MapOk l := by
  unfold mapErrL ckMap at h
  by_cases h1 : l.length < 2
  · rw [if_pos h1] at h; simp at h
  by_cases h2 : 20 < l.length
  · rw [if_neg h1, if_pos h2] at h; simp at h
  rw [if_neg h1, if_neg h2] at h
  have hk := fun j hj => nodeE_ok (ckGo_ok (l := l) (k := l.length) (i := 0) (by omega) h j (Nat.zero_le _) hj)
  refine ⟨by omega, by omega, fun i hi => (hk i hi).1.1, fun i hi => (hk i hi).1.2, fun i hi => ?_, fun i hi => ?_⟩
  · have := (hk (i + 1) hi).2.1; rwa [prevAt_succ] at this
  · have := (hk (i + 1) hi).2.2; rwa [prevAt_succ] at this
theorem MapOk.err {l : List (Int × Int)} (h : MapOk l) : mapErrL l = 0 := by
  unfold mapErrL ckMap
  have := h.lo
  have := h.hi
  rw [if_neg (by omega), if_neg (by omega), ckGo_from (i := l.length) (fun j hj => ?_) (Nat.le_refl _), ckGo_end]
  refine nodeE_z ⟨h.pos j hj, h.time j hj⟩ ?_
  cases j with
  | zero =>
    have h1 := h.pos 0 hj; have h2 := h.time 0 hj
    exact ⟨show (-1 : Int) < (l.getD 0 (0, 0)).1 by omega, show (-1 : Int) < (l.getD 0 (0, 0)).2 by omega⟩
  | succ j => rw [prevAt_succ]; exact ⟨h.posUp j hj, h.timeUp j hj⟩
theorem MapOk.posLt {l : List (Int × Int)} (h : MapOk l) : ∀ {k i : Nat}, i + k + 1 < l.length → (l.getD i (0, 0)).1 < (l.getD (i + k + 1) (0, 0)).1
  | 0, i, hi => h.posUp i hi
  | k + 1, i, hi => Int.lt_trans (h.posLt (k := k) (by omega)) (h.posUp (i + k + 1) hi)
theorem MapOk.timeLt {l : List (Int × Int)} (h : MapOk l) : ∀ {k i : Nat}, i + k + 1 < l.length → (l.getD i (0, 0)).2 < (l.getD (i + k + 1) (0, 0)).2
  | 0, i, hi => h.timeUp i hi
  | k + 1, i, hi => Int.lt_trans (h.timeLt (k := k) (by omega)) (h.timeUp (i + k + 1) hi)
theorem MapOk.posLe {l : List (Int × Int)} (h : MapOk l) {i j : Nat} (hij : i ≤ j) (hj : j < l.length) : (l.getD i (0, 0)).1 ≤ (l.getD j (0, 0)).1 := by
  by_cases e : i = j
  · subst e; omega
  · have := h.posLt (k := j - i - 1) (i := i) (by omega)
    rw [show i + (j - i - 1) + 1 = j by omega] at this; omega
theorem MapOk.timeLe {l : List (Int × Int)} (h : MapOk l) {i j : Nat} (hij : i ≤ j) (hj : j < l.length) : (l.getD i (0, 0)).2 ≤ (l.getD j (0, 0)).2 := by
  by_cases e : i = j
  · subst e; omega
  · have := h.timeLt (k := j - i - 1) (i := i) (by omega)
    rw [show i + (j - i - 1) + 1 = j by omega] at this; omega

def pieceOf (l : List (Int × Int)) (i : Nat) : (Int × Int) × (Int × Int) := (l.getD i (0, 0), l.getD (i + 1) (0, 0))
def findP (p : (Int × Int) × (Int × Int) → Bool) (l : List (Int × Int)) (i : Nat) : Nat → Option Nat
  | 0 => none
  | k + 1 => if p (pieceOf l i) = true then some i else findP p l (i + 1) k
def inTime (t : Int) (p : (Int × Int) × (Int × Int)) : Bool := decide (p.1.2 ≤ t ∧ t ≤ p.2.2)
theorem findP_some {p : (Int × Int) × (Int × Int) → Bool} {l : List (Int × Int)} : ∀ {k i j : Nat}, findP p l i k = some j → i ≤ j ∧ j < i + k ∧ p (pieceOf l j) = true ∧ ∀ m, i ≤ m → m < j → p (pieceOf l m) = false
  | 0, i, j, h => by simp [findP] at h
  | k + 1, i, j, h => by
    unfold findP at h
    by_cases hp : p (pieceOf l i) = true
    · rw [if_pos hp] at h
      obtain rfl := Option.some.inj h
      exact ⟨Nat.le_refl _, by omega, hp, fun m h1 h2 => by omega⟩
    · rw [if_neg hp] at h
      obtain ⟨h1, h2, h3, h4⟩ := findP_some h
      refine ⟨by omega, by omega, h3, fun m h5 h6 => ?_⟩
      by_cases e : m = i
      · subst e; simpa using hp
      · exact h4 m (by omega) h6
def atTime (l : List (Int × Int)) (t : Int) (i : Nat) : Nat → Nat
  | 0 => i
  | k + 1 => if (l.getD (i + 1) (0, 0)).2 < t then atTime l t (i + 1) k else i
end Go.Lq

namespace Go.Lq
open Go

section
variable {H : AHeap}

theorem copyInts_c {l : List Int} {v : Value} (hl : Ints H l v) (hb : l.length ≤ 1000000000) :
    ACall Go.Proofs.Tryd.prog 25 [v] H fun v H1 => v = .slice (some ⟨H.length, 0, none⟩) l.length l.length ∧ H1 = H ++ [.cells true 1 (l.map (.int .i64))] := by
  refine ACall.tidyE (f := id) (sz := 1) (n := l.length) (vs := l.map (.int .i64)) wraps_id (closed_ints l) ?_
  (refine a25 ?_; simp only [n25, List.replicate, List.length_cons, List.length_nil, List.cons_append, List.nil_append]; first | refine q1 ?_ | refine q2 ?_ | refine q6 ?_ | refine q7 ?_ | refine qh rfl ?_ | skip)
  rcases hl with ⟨h1, h2⟩
  rcases h2 with ⟨rfl, hn⟩ | ⟨id, off, c, rfl, hc⟩
  · have : l = [] := List.length_eq_zero_iff.1 hn
    subst this
    have ha : appendA 1 8 (H ++ [.cells true 1 []]) (.slice (some ⟨H.length, 0, none⟩) 0 0) (.slice none 0 0) = some (.slice (some ⟨H.length, 0, none⟩) 0 0, H ++ [.cells true 1 []]) := rfl
    ((repeat (first | refine ya (by (with_reducible constructor) <;> first | rfl | decide) ?_ | apply yb | refine yc rfl ?_ | ((first | apply yd | apply ye); simp (disch := first | exact List.all_nil | omega | (simp only [go_sem]; done) | (simp only [ln, List.length_map]; omega) | (repeat' first | assumption | exact Ext.refl _ | refine Ext.app ?_ _)) only [go_sem, ha]; with_reducible rfl))))
    exact fin_1 ⟨_, H.length, rfl, ⟨_, rfl⟩, rfl, Nat.le_refl _, by simp⟩
  · by_cases hn : l.length = 0
    · have : l = [] := List.length_eq_zero_iff.1 hn
      subst this
      have ha : appendA 1 8 (H ++ [.cells true 1 []]) (.slice (some ⟨H.length, 0, none⟩) 0 0) (.slice (some ⟨id, off, none⟩) ([] : List Int).length c) = some (.slice (some ⟨H.length, 0, none⟩) 0 0, H ++ [.cells true 1 []]) := rfl
      ((repeat (first | refine ya (by (with_reducible constructor) <;> first | rfl | decide) ?_ | apply yb | refine yc rfl ?_ | ((first | apply yd | apply ye); simp (disch := first | exact List.all_nil | omega | (simp only [go_sem]; done) | (simp only [ln, List.length_map]; omega) | (repeat' first | assumption | exact Ext.refl _ | refine Ext.app ?_ _)) only [go_sem, ha]; with_reducible rfl))))
      exact fin_1 ⟨_, H.length, rfl, ⟨_, rfl⟩, rfl, Nat.le_refl _, by simp⟩
    · have ha : appendA 1 8 (H ++ [.cells true 1 []]) (.slice (some ⟨H.length, 0, none⟩) 0 0) (.slice (some ⟨id, off, none⟩) l.length c) =
          some (.slice (some ⟨(H ++ [AObj.cells true 1 []]).length, 0, none⟩) l.length l.length, (H ++ [.cells true 1 []]) ++ [.cells true 1 (l.map (.int .i64))]) := by
        obtain ⟨k, hk⟩ : ∃ k, l.length = k + 1 := ⟨l.length - 1, by omega⟩
        have hc' := cellsAt_ext ⟨[AObj.cells true 1 []], rfl⟩ (hc (by omega))
        have hr : roomOk 8 (0 + l.length) = true := roomOk_of (by omega) (by omega)
        rw [hk] at hc' hr ⊢
        simp only [appendA, hc', isAtom_ints, hr, and_self, if_true]
      ((repeat (first | refine ya (by (with_reducible constructor) <;> first | rfl | decide) ?_ | apply yb | refine yc rfl ?_ | ((first | apply yd | apply ye); simp (disch := first | exact List.all_nil | omega | (simp only [go_sem]; done) | (simp only [ln, List.length_map]; omega) | (repeat' first | assumption | exact Ext.refl _ | refine Ext.app ?_ _)) only [go_sem, ha]; with_reducible rfl))))
      refine fin_1 ?_
      exact ⟨_, (H ++ [AObj.cells true 1 []]).length, rfl, ⟨_, List.append_assoc _ _ _⟩, rfl, by simp, by simp⟩

theorem bsize_c (n : Int) (hn : -9223372036854775807 ≤ n ∧ n ≤ 9223372036854775807) : ACall Go.Proofs.Tryd.prog 35 [.int .i64 n] H fun v H' => v = .int .i64 (max n (-n)) ∧ H' = H := by
  (refine a35 ?_; simp only [n35, List.replicate, List.length_cons, List.length_nil, List.cons_append, List.nil_append]; first | refine q1 ?_ | refine q2 ?_ | refine q6 ?_ | refine q7 ?_ | refine qh rfl ?_ | skip)
  ((repeat (first | refine ya (by (with_reducible constructor) <;> first | rfl | decide) ?_ | apply yb | refine yc rfl ?_ | ((first | apply yd | apply ye); simp (disch := first | exact List.all_nil | omega | (simp only [go_sem]; done) | (simp only [ln, List.length_map]; omega) | (repeat' first | assumption | exact Ext.refl _ | refine Ext.app ?_ _)) only [go_sem]; with_reducible rfl))))
  refine fin_1 ⟨?_, rfl⟩
  simp

end
theorem firstD {P : Program} {G : AHeap} {f : FuncId} {args : List Value} {v : Value} (h : ACall P f args G fun v1 H1 => v1 = v ∧ H1 = G) : ACall P f args G fun v1 H1 => v1 = v ∧ H1 = G ++ [] :=
  h.mono fun _ _ ⟨a, b⟩ => ⟨a, by simp [b]⟩

end Go.Lq

namespace Go.Lq
open Go
open Go.Proofs
variable {H : AHeap}

theorem store_at2v {id e : Nat} {x y a b : Value} (h : H[id]? = some (.cells true e [x, y])) (ha : isAtom a = true) (hb : isAtom b = true) : storeR 2 (.pointer (some ⟨id, 0, none⟩)) (.agg ⟨[a, b]⟩) H = some (undef, H.set id (.cells true e [a, b])) := by
  have e1 : (Value.agg ⟨[a, b]⟩).cells = ⟨[a, b]⟩ := rfl
  have e2 : ([a, b] : List Value).all isAtom = true := by simp [ha, hb]
  have e3 : setCells [x, y] 0 [a, b] = [a, b] := rfl
  simp only [storeR, e1, List.size_toArray, storeAt, h, e2, e3, and_true, List.length_cons, List.length_nil]
  rfl
end Go.Lq

namespace Go.Lq

theorem mul_abs {x y : Int} {a b : Nat} (hx : -(a : Int) ≤ x ∧ x ≤ a) (hy : -(b : Int) ≤ y ∧ y ≤ b) : -((a * b : Nat) : Int) ≤ x * y ∧ x * y ≤ ((a * b : Nat) : Int) := by
  have h := Nat.mul_le_mul (show x.natAbs ≤ a by omega) (show y.natAbs ≤ b by omega)
  rw [← Int.natAbs_mul] at h
  omega
theorem floor_neg {n b : Int} (hb : 0 < b) : -((b - 1 - n) / b) = n / b := by
  have h1 := Int.mul_ediv_add_emod n b
  have h2 := Int.emod_nonneg n (show b ≠ 0 by omega)
  have h3 := Int.emod_lt_of_pos n hb
  have e : b - 1 - n = (b - 1 - n % b) + b * (-(n / b)) := by rw [Int.mul_neg]; omega
  rw [e, Int.add_mul_ediv_left _ _ (by omega), Int.ediv_eq_zero_of_lt (by omega) (by omega)]
  omega
theorem ediv_bound {n b : Int} {m : Nat} (hb : 0 < b) (h : -(m : Int) ≤ n ∧ n ≤ m) : -(m : Int) ≤ n / b ∧ n / b ≤ m := by
  constructor
  · refine Int.le_ediv_of_mul_le hb ?_
    have : (-(m : Int)) * b ≤ -(m : Int) * 1 := Int.mul_le_mul_of_nonpos_left (by omega) (by omega)
    omega
  · by_cases hn : 0 ≤ n
    · exact Int.le_trans (Int.ediv_le_self _ hn) h.2
    · have := Int.ediv_neg_of_neg_of_pos (show n < 0 by omega) hb
      omega

def signalErrL (x : List Int) : Int := if 400 < x.length then 8 else if x.all (fun n => decide (-32767 ≤ n ∧ n ≤ 32767)) = true then 0 else 2
theorem all_sized {m : Int} {l : List Int} (hm : 0 ≤ m) (h : l.all (fun n => decide (-m ≤ n ∧ n ≤ m)) = true) (i : Nat) : -m ≤ l.getD i 0 ∧ l.getD i 0 ≤ m := by
  by_cases hi : i < l.length
  · simpa using all_getD (d := 0) h hi
  · rw [List.getD_eq_getElem?_getD, List.getElem?_eq_none (by omega)]
    simp; omega
theorem signalErr_ok {x : List Int} (h : signalErrL x = 0) : x.length ≤ 400 ∧ ∀ i : Nat, -32767 ≤ x.getD i 0 ∧ x.getD i 0 ≤ 32767 := by
  unfold signalErrL at h
  split at h
  · cases h
  · split at h
    · rename_i h1 h2; exact ⟨by omega, all_sized (by decide) h2⟩
    · cases h
end Go.Lq

namespace Go.Lq

def holdsB (s d amp b : Int) : Prop := amp - (-(s * b)) / d ≤ b
instance (s d amp b : Int) : Decidable (holdsB s d amp b) := inferInstanceAs (Decidable (_ ≤ _))
end Go.Lq
