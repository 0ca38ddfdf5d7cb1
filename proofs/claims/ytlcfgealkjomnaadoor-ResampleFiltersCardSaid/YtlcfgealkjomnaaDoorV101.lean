/- Towards ResampleFilters of seat YtlcfgealkjomnaaDoor: it returns true for every input. Made out of the proof's own texts, merged. -/
import Derived.Test.YtlcfgealkjomnaaDoorProg
import Derived.KernelRfl
import Derived.Test.YtlcfgealkjomnaaDoorCards
import Derived.Test.YtlcfgealkjomnaaDoorTie
import Derived.LaidMore
import Derived.Test.YtlcfgealkjomnaaDoorB3
set_option linter.unusedSimpArgs false
set_option maxRecDepth 100000
namespace Go.Lq
open Go
theorem mo : Go.Proofs.Tryd.prog.follows .mixedOrders = true := by kernel_rfl

def R10 : RFunc :=
  ⟨(.seq (.ops [⟨(some 2), (.box (.tmp 0)), none⟩, ⟨(some 4), (.mov (.const (.bool false))), none⟩]) (.seq (.seq (.ops [⟨(some 8), (.call (.func 20) []), none⟩, ⟨(some 9), (.not (.tmp 8)), none⟩]) (.cond (.tmp 9) (.seq (.ops [⟨(some 4), (.mov (.const (.bool false))), none⟩]) .ret) .skip)) (.seq (.seq (.ops [⟨(some 10), (.loadN 2 (.tmp 2)), none⟩, ⟨(some 11), (.call (.func 55) [(.tmp 10)]), none⟩, ⟨(some 12), (.not (.tmp 11)), none⟩, ⟨(some 13), (.mov (.tmp 12)), none⟩, ⟨(some 14), (.mov (.tmp 1)), (some (13, false))⟩, ⟨(some 15), (.call (.func 22) [(.tmp 14)]), (some (13, false))⟩, ⟨(some 16), (.not (.tmp 15)), (some (13, false))⟩, ⟨(some 17), (.pick (.tmp 13) (.const (.bool true)) (.tmp 16)), none⟩]) (.cond (.tmp 17) (.seq (.ops [⟨(some 4), (.mov (.const (.bool true))), none⟩]) .ret) .skip)) (.seq (.ops [⟨(some 19), (.loadN 2 (.tmp 2)), none⟩, ⟨(some 20), (.call (.func 57) [(.tmp 19)]), none⟩, ⟨(some 21), (.mov (.tmp 1)), none⟩, ⟨(some 22), (.call (.func 25) [(.tmp 21)]), none⟩, ⟨(some 23), (.call (.func 56) [(.tmp 20), (.tmp 22)]), none⟩, ⟨(some 18), (.mov (.tmp 23)), none⟩, ⟨(some 24), (.extract (.tmp 18) 0), none⟩, ⟨(some 25), (.extract (.tmp 18) 1), none⟩, ⟨(some 5), (.mov (.tmp 24)), none⟩, ⟨(some 6), (.mov (.tmp 25)), none⟩]) (.seq (.ops [⟨(some 26), (.loadN 2 (.tmp 2)), none⟩, ⟨(some 27), (.call (.func 58) [(.tmp 26)]), none⟩, ⟨(some 7), (.mov (.tmp 27)), none⟩]) (.seq (.seq (.ops [⟨(some 28), (.loadN 2 (.tmp 2)), none⟩, ⟨(some 29), (.call (.func 57) [(.tmp 28)]), none⟩, ⟨(some 30), (.call (.func 59) [(.tmp 29)]), none⟩, ⟨(some 31), (.mov (.tmp 7)), none⟩, ⟨(some 32), (.cmp .neq (.tmp 30) (.tmp 31)), none⟩]) (.cond (.tmp 32) (.seq (.ops [⟨(some 4), (.mov (.const (.bool false))), none⟩]) .ret) .skip)) (.seq (.seq (.ops [⟨(some 33), (.mov (.tmp 7)), none⟩, ⟨(some 34), (.cmp .eql (.tmp 33) (.const (.int .i64 0))), none⟩]) (.cond (.tmp 34) (.ops [⟨(some 35), (.mov (.tmp 1)), none⟩, ⟨(some 36), (.call (.func 28) [(.tmp 35)]), none⟩, ⟨(some 7), (.mov (.tmp 36)), none⟩]) .skip)) (.seq (.seq (.ops [⟨(some 37), (.mov (.tmp 7)), none⟩, ⟨(some 38), (.cmp .neq (.tmp 37) (.const (.int .i64 0))), none⟩]) (.cond (.tmp 38) (.seq (.ops [⟨(some 39), (.mov (.tmp 6)), none⟩, ⟨(some 40), (.mov (.tmp 7)), none⟩, ⟨(some 41), (.cmp .eql (.tmp 39) (.tmp 40)), none⟩, ⟨(some 42), (.mov (.tmp 41)), none⟩, ⟨(some 43), (.mov (.tmp 5)), (some (42, true))⟩, ⟨(some 44), (.len (.tmp 43)), (some (42, true))⟩, ⟨(some 45), (.cmp .eql (.tmp 44) (.const (.int .i64 0))), (some (42, true))⟩, ⟨(some 46), (.pick (.tmp 42) (.tmp 45) (.const (.bool false))), none⟩, ⟨(some 4), (.mov (.tmp 46)), none⟩]) .ret) .skip)) (.seq (.ops [⟨(some 47), (.mov (.tmp 6)), none⟩, ⟨(some 48), (.cmp .eql (.tmp 47) (.const (.int .i64 0))), none⟩, ⟨(some 49), (.mov (.tmp 48)), none⟩, ⟨(some 50), (.mov (.tmp 5)), (some (49, true))⟩, ⟨(some 51), (.loadN 2 (.tmp 2)), (some (49, true))⟩, ⟨(some 52), (.mov (.tmp 1)), (some (49, true))⟩, ⟨(some 53), (.call (.func 60) [(.tmp 51), (.tmp 52)]), (some (49, true))⟩, ⟨(some 54), (.call (.func 27) [(.tmp 50), (.tmp 53)]), (some (49, true))⟩, ⟨(some 55), (.pick (.tmp 49) (.tmp 54) (.const (.bool false))), none⟩, ⟨(some 4), (.mov (.tmp 55)), none⟩]) .ret))))))))), 56, [(.tmp 4)]⟩
theorem c10 : compileFn Go.Proofs.Tryd.prog Go.Proofs.Tryd.f10 = some R10 := by kernel_rfl
theorem n10 : R10.ntmps = 56 := rfl
theorem a10 {args : List Value} {H : AHeap} {Q : Value → AHeap → Prop} (h : AWP Go.Proofs.Tryd.prog none R10.code (Fin R10 Q) (args ++ List.replicate (R10.ntmps - args.length) undef) H) : ACall Go.Proofs.Tryd.prog 10 args H Q := acall_intro mo Go.Proofs.Tryd.func10 c10 h

def R20 : RFunc :=
  ⟨(.seq (.ops [⟨(some 0), (.mov (.const (.bool false))), none⟩]) (.seq (.ops [⟨(some 11), (.call (.func 86) []), none⟩, ⟨(some 12), (.call (.func 37) [(.const (.int .i64 3)), (.tmp 11), (.const (.int .i64 96))]), none⟩, ⟨(some 10), (.mov (.tmp 12)), none⟩, ⟨(some 13), (.extract (.tmp 10) 0), none⟩, ⟨(some 14), (.extract (.tmp 10) 1), none⟩, ⟨(some 15), (.extract (.tmp 10) 2), none⟩, ⟨(some 1), (.mov (.tmp 13)), none⟩, ⟨(some 2), (.mov (.tmp 14)), none⟩, ⟨(some 3), (.mov (.tmp 15)), none⟩]) (.seq (.ops [⟨(some 17), (.call (.func 87) []), none⟩, ⟨(some 18), (.build [(.int .i64 0), (.int .i64 0), (.int .i64 0), (.int .i64 0), (.int .i64 0), (.slice none 0 0)] [(0, (1, (.const (.int .i64 1)))), (1, (1, (.const (.int .i64 1)))), (4, (1, (.const (.int .i64 5)))), (5, (1, (.tmp 17)))]), none⟩, ⟨(some 19), (.call (.func 86) []), none⟩, ⟨(some 20), (.call (.func 23) [(.tmp 18), (.tmp 19)]), none⟩, ⟨(some 16), (.mov (.tmp 20)), none⟩, ⟨(some 21), (.extract (.tmp 16) 0), none⟩, ⟨(some 22), (.extract (.tmp 16) 1), none⟩, ⟨(some 4), (.mov (.tmp 21)), none⟩, ⟨(some 5), (.mov (.tmp 22)), none⟩]) (.seq (.ops [⟨(some 24), (.call (.func 64) [(.const (.int .i64 3))]), none⟩, ⟨(some 23), (.mov (.tmp 24)), none⟩, ⟨(some 25), (.extract (.tmp 23) 0), none⟩, ⟨(some 26), (.extract (.tmp 23) 1), none⟩, ⟨(some 6), (.new [(.int .i64 0), (.int .i64 0)]), none⟩, ⟨none, (.store 2 (.tmp 6) (.tmp 25)), none⟩, ⟨(some 7), (.mov (.tmp 26)), none⟩]) (.seq (.ops [⟨(some 28), (.build [(.int .i64 0), (.int .i64 0), (.int .i64 0)] [(0, (1, (.const (.int .i64 1)))), (2, (1, (.const (.int .i64 2))))]), none⟩, ⟨(some 29), (.call (.func 41) [(.tmp 28), (.const (.int .i64 100))]), none⟩, ⟨(some 27), (.mov (.tmp 29)), none⟩, ⟨(some 30), (.extract (.tmp 27) 0), none⟩, ⟨(some 31), (.extract (.tmp 27) 1), none⟩, ⟨(some 8), (.mov (.tmp 30)), none⟩, ⟨(some 9), (.mov (.tmp 31)), none⟩]) (.seq (.ops [⟨(some 32), (.mov (.tmp 3)), none⟩, ⟨(some 33), (.cmp .eql (.tmp 32) (.const (.int .i64 0))), none⟩, ⟨(some 34), (.mov (.tmp 33)), none⟩, ⟨(some 35), (.mov (.tmp 1)), (some (34, true))⟩, ⟨(some 36), (.cmp .eql (.tmp 35) (.const (.int .i64 22609920))), (some (34, true))⟩, ⟨(some 37), (.pick (.tmp 34) (.tmp 36) (.const (.bool false))), none⟩, ⟨(some 38), (.mov (.tmp 37)), none⟩, ⟨(some 39), (.mov (.tmp 2)), (some (38, true))⟩, ⟨(some 40), (.cmp .eql (.tmp 39) (.const (.int .i64 1572864))), (some (38, true))⟩, ⟨(some 41), (.pick (.tmp 38) (.tmp 40) (.const (.bool false))), none⟩, ⟨(some 42), (.mov (.tmp 41)), none⟩, ⟨(some 43), (.mov (.tmp 5)), (some (42, true))⟩, ⟨(some 44), (.cmp .eql (.tmp 43) (.const (.int .i64 0))), (some (42, true))⟩, ⟨(some 45), (.pick (.tmp 42) (.tmp 44) (.const (.bool false))), none⟩, ⟨(some 46), (.mov (.tmp 45)), none⟩, ⟨(some 47), (.mov (.tmp 4)), (some (46, true))⟩, ⟨(some 48), (.buildSlice 1 9 [(.int .i64 0), (.int .i64 0), (.int .i64 0), (.int .i64 0), (.int .i64 0), (.int .i64 0), (.int .i64 0), (.int .i64 0), (.int .i64 0)] [(0, (1, (.const (.int .i64 0)))), (1, (1, (.const (.int .i64 5)))), (2, (1, (.const (.int .i64 10)))), (3, (1, (.const (.int .i64 15)))), (4, (1, (.const (.int .i64 20)))), (5, (1, (.const (.int .i64 25)))), (6, (1, (.const (.int .i64 30)))), (7, (1, (.const (.int .i64 35)))), (8, (1, (.const (.int .i64 40))))]), (some (46, true))⟩, ⟨(some 49), (.call (.func 27) [(.tmp 47), (.tmp 48)]), (some (46, true))⟩, ⟨(some 50), (.pick (.tmp 46) (.tmp 49) (.const (.bool false))), none⟩, ⟨(some 51), (.mov (.tmp 50)), none⟩, ⟨(some 52), (.mov (.tmp 7)), (some (51, true))⟩, ⟨(some 53), (.cmp .eql (.tmp 52) (.const (.int .i64 0))), (some (51, true))⟩, ⟨(some 54), (.pick (.tmp 51) (.tmp 53) (.const (.bool false))), none⟩, ⟨(some 55), (.mov (.tmp 54)), none⟩, ⟨(some 56), (.loadN 2 (.tmp 6)), (some (55, true))⟩, ⟨(some 57), (.build [(.int .i64 0), (.int .i64 0)] [(0, (1, (.const (.int .i64 3)))), (1, (1, (.const (.int .i64 128))))]), (some (55, true))⟩, ⟨(some 58), (.eqAgg false [(0, false), (1, false)] (.tmp 56) (.tmp 57)), (some (55, true))⟩, ⟨(some 59), (.pick (.tmp 55) (.tmp 58) (.const (.bool false))), none⟩, ⟨(some 60), (.mov (.tmp 59)), none⟩, ⟨(some 61), (.mov (.tmp 9)), (some (60, true))⟩, ⟨(some 62), (.cmp .eql (.tmp 61) (.const (.int .i64 0))), (some (60, true))⟩, ⟨(some 63), (.pick (.tmp 60) (.tmp 62) (.const (.bool false))), none⟩, ⟨(some 64), (.mov (.tmp 63)), none⟩, ⟨(some 65), (.mov (.tmp 8)), (some (64, true))⟩, ⟨(some 66), (.cmp .eql (.tmp 65) (.const (.int .i64 200))), (some (64, true))⟩, ⟨(some 67), (.pick (.tmp 64) (.tmp 66) (.const (.bool false))), none⟩, ⟨(some 0), (.mov (.tmp 67)), none⟩]) .ret)))))), 68, [(.tmp 0)]⟩
theorem c20 : compileFn Go.Proofs.Tryd.prog Go.Proofs.Tryd.f20 = some R20 := by kernel_rfl
theorem n20 : R20.ntmps = 68 := rfl
theorem a20 {args : List Value} {H : AHeap} {Q : Value → AHeap → Prop} (h : AWP Go.Proofs.Tryd.prog none R20.code (Fin R20 Q) (args ++ List.replicate (R20.ntmps - args.length) undef) H) : ACall Go.Proofs.Tryd.prog 20 args H Q := acall_intro mo Go.Proofs.Tryd.func20 c20 h

def R22 : RFunc :=
  ⟨(.seq (.ops [⟨(some 2), (.mov (.const (.bool false))), none⟩]) (.seq (.ops [⟨(some 3), (.mov (.tmp 0)), none⟩, ⟨(some 4), (.len (.tmp 3)), none⟩, ⟨(some 5), (.cmp .leq (.tmp 4) (.const (.int .i64 64))), none⟩, ⟨(some 6), (.mov (.tmp 5)), none⟩, ⟨(some 7), (.mov (.tmp 0)), (some (6, false))⟩, ⟨(some 8), (.len (.tmp 7)), (some (6, false))⟩, ⟨(some 9), (.cmp .gtr (.tmp 8) (.const (.int .i64 400))), (some (6, false))⟩, ⟨(some 10), (.mov (.tmp 9)), (some (6, false))⟩, ⟨(some 11), (.mov (.tmp 0)), (some (10, true))⟩, ⟨(some 12), (.len (.tmp 11)), (some (10, true))⟩, ⟨(some 13), (.cmp .leq (.tmp 12) (.const (.int .i64 402))), (some (10, true))⟩, ⟨(some 14), (.pick (.tmp 10) (.tmp 13) (.const (.bool false))), (some (6, false))⟩, ⟨(some 15), (.pick (.tmp 6) (.const (.bool true)) (.tmp 14)), none⟩, ⟨(some 2), (.mov (.tmp 15)), none⟩]) .ret)), 16, [(.tmp 2)]⟩
theorem c22 : compileFn Go.Proofs.Tryd.prog Go.Proofs.Tryd.f22 = some R22 := by kernel_rfl
theorem n22 : R22.ntmps = 16 := rfl
theorem a22 {args : List Value} {H : AHeap} {Q : Value → AHeap → Prop} (h : AWP Go.Proofs.Tryd.prog none R22.code (Fin R22 Q) (args ++ List.replicate (R22.ntmps - args.length) undef) H) : ACall Go.Proofs.Tryd.prog 22 args H Q := acall_intro mo Go.Proofs.Tryd.func22 c22 h

def R23 : RFunc :=
  ⟨(.seq (.ops [⟨(some 2), (.box (.tmp 0)), none⟩, ⟨(some 4), (.mov (.const (.slice none 0 0))), none⟩, ⟨(some 5), (.mov (.const (.int .i64 0))), none⟩]) (.seq (.seq (.ops [⟨(some 13), (.loadN 6 (.tmp 2)), none⟩, ⟨(some 14), (.call (.func 33) [(.tmp 13)]), none⟩, ⟨(some 15), (.mov (.tmp 1)), none⟩, ⟨(some 16), (.call (.func 89) [(.tmp 15)]), none⟩, ⟨(some 17), (.buildSlice 1 2 [(.int .i64 0), (.int .i64 0)] [(0, (1, (.tmp 14))), (1, (1, (.tmp 16)))]), none⟩, ⟨(some 18), (.call (.func 88) [(.tmp 17)]), none⟩, ⟨(some 6), (.mov (.tmp 18)), none⟩]) (.seq (.ops [⟨(some 19), (.mov (.tmp 6)), none⟩, ⟨(some 20), (.cmp .neq (.tmp 19) (.const (.int .i64 0))), none⟩]) (.cond (.tmp 20) (.seq (.ops [⟨(some 21), (.mov (.tmp 6)), none⟩, ⟨(some 4), (.mov (.const (.slice none 0 0))), none⟩, ⟨(some 5), (.mov (.tmp 21)), none⟩]) .ret) .skip))) (.seq (.ops [⟨(some 23), (.loadN 6 (.tmp 2)), none⟩, ⟨(some 24), (.mov (.tmp 1)), none⟩, ⟨(some 25), (.len (.tmp 24)), none⟩, ⟨(some 26), (.call (.func 90) [(.tmp 23), (.tmp 25)]), none⟩, ⟨(some 22), (.mov (.tmp 26)), none⟩, ⟨(some 27), (.extract (.tmp 22) 0), none⟩, ⟨(some 28), (.extract (.tmp 22) 1), none⟩, ⟨(some 7), (.mov (.tmp 27)), none⟩, ⟨(some 8), (.mov (.tmp 28)), none⟩]) (.seq (.seq (.ops [⟨(some 29), (.mov (.tmp 8)), none⟩, ⟨(some 30), (.cmp .neq (.tmp 29) (.const (.int .i64 0))), none⟩]) (.cond (.tmp 30) (.seq (.ops [⟨(some 31), (.mov (.tmp 8)), none⟩, ⟨(some 4), (.mov (.const (.slice none 0 0))), none⟩, ⟨(some 5), (.mov (.tmp 31)), none⟩]) .ret) .skip)) (.seq (.ops [⟨(some 32), (.fieldAddr 1 (.tmp 2)), none⟩, ⟨(some 33), (.load (.tmp 32)), none⟩, ⟨(some 34), (.idxAddrA 4 5 (.global 0) (.tmp 33)), none⟩, ⟨(some 35), (.loadN 5 (.tmp 34)), none⟩, ⟨(some 9), (.new [(.int .i64 0), (.int .i64 0), .nilFunc, .nilFunc, (.int .i64 0)]), none⟩, ⟨none, (.store 5 (.tmp 9) (.tmp 35)), none⟩]) (.seq (.seq (.ops [⟨(some 36), (.mov (.tmp 7)), none⟩, ⟨(some 37), (.len (.tmp 36)), none⟩, ⟨(some 38), (.mov (.const (.int .i64 0))), none⟩]) (.block 0 (.loop (.seq (.ops [⟨(some 39), (.cmp .lss (.tmp 38) (.tmp 37)), none⟩]) (.seq (.cond (.tmp 39) .skip (.exit 0)) (.seq (.block 1 (.seq (.ops [⟨(some 40), (.mov (.tmp 38)), none⟩, ⟨(some 41), (.idxAddr 1 (.tmp 36) (.tmp 38)), none⟩, ⟨(some 42), (.load (.tmp 41)), none⟩, ⟨(some 10), (.mov (.tmp 40)), none⟩, ⟨(some 11), (.mov (.tmp 42)), none⟩]) (.seq (.draw [(⟨(some 43), (.loadN 5 (.tmp 9)), none⟩, false), (⟨(some 44), (.mov (.tmp 1)), none⟩, false), (⟨(some 45), (.mov (.tmp 11)), none⟩, false), (⟨(some 46), (.call (.func 92) [(.tmp 43), (.tmp 44), (.tmp 45)]), none⟩, false), (⟨(some 47), (.arith .mul (.const (.int .i64 2)) (.tmp 46)), none⟩, false), (⟨(some 48), (.fieldAddr 1 (.tmp 9)), none⟩, false), (⟨(some 49), (.load (.tmp 48)), none⟩, false), (⟨(some 50), (.arith .add (.tmp 47) (.tmp 49)), none⟩, false), (⟨(some 51), (.fieldAddr 1 (.tmp 9)), none⟩, false), (⟨(some 52), (.load (.tmp 51)), none⟩, false), (⟨(some 53), (.arith .mul (.const (.int .i64 2)) (.tmp 52)), none⟩, false), (⟨(some 54), (.call (.func 91) [(.tmp 50), (.tmp 53)]), none⟩, false), (⟨(some 12), (.mov (.tmp 54)), none⟩, false)]) (.ops [⟨(some 55), (.mov (.tmp 7)), none⟩, ⟨(some 56), (.mov (.tmp 10)), none⟩, ⟨(some 57), (.mov (.tmp 12)), none⟩, ⟨(some 58), (.most true (.tmp 57) [(.const (.int .i64 (-32767)))]), none⟩, ⟨(some 59), (.most false (.tmp 58) [(.const (.int .i64 32767))]), none⟩, ⟨(some 60), (.idxAddr 1 (.tmp 55) (.tmp 56)), none⟩, ⟨none, (.store 1 (.tmp 60) (.tmp 59)), none⟩])))) (.ops [⟨(some 61), (.arith .add (.tmp 38) (.const (.int .i64 1))), none⟩, ⟨(some 38), (.mov (.tmp 61)), none⟩]))))))) (.seq (.ops [⟨(some 62), (.mov (.tmp 7)), none⟩, ⟨(some 4), (.mov (.tmp 62)), none⟩, ⟨(some 5), (.mov (.const (.int .i64 0))), none⟩]) .ret))))))), 63, [(.tmp 4), (.tmp 5)]⟩
theorem c23 : compileFn Go.Proofs.Tryd.prog Go.Proofs.Tryd.f23 = some R23 := by kernel_rfl
theorem n23 : R23.ntmps = 63 := rfl
theorem a23 {args : List Value} {H : AHeap} {Q : Value → AHeap → Prop} (h : AWP Go.Proofs.Tryd.prog none R23.code (Fin R23 Q) (args ++ List.replicate (R23.ntmps - args.length) undef) H) : ACall Go.Proofs.Tryd.prog 23 args H Q := acall_intro mo Go.Proofs.Tryd.func23 c23 h

def R25 : RFunc :=
  ⟨(.seq (.ops [⟨(some 2), (.mov (.const (.slice none 0 0))), none⟩]) (.seq (.ops [⟨(some 3), (.buildSlice 1 0 [] []), none⟩, ⟨(some 4), (.mov (.tmp 0)), none⟩, ⟨(some 5), (.append 1 8 (.tmp 3) (.tmp 4)), none⟩, ⟨(some 2), (.mov (.tmp 5)), none⟩]) .ret)), 6, [(.tmp 2)]⟩
theorem c25 : compileFn Go.Proofs.Tryd.prog Go.Proofs.Tryd.f25 = some R25 := by kernel_rfl
theorem n25 : R25.ntmps = 6 := rfl
theorem a25 {args : List Value} {H : AHeap} {Q : Value → AHeap → Prop} (h : AWP Go.Proofs.Tryd.prog none R25.code (Fin R25 Q) (args ++ List.replicate (R25.ntmps - args.length) undef) H) : ACall Go.Proofs.Tryd.prog 25 args H Q := acall_intro mo Go.Proofs.Tryd.func25 c25 h

def R27 : RFunc :=
  ⟨(.seq (.ops [⟨(some 4), (.mov (.const (.bool false))), none⟩]) (.seq (.seq (.ops [⟨(some 6), (.mov (.tmp 0)), none⟩, ⟨(some 7), (.len (.tmp 6)), none⟩, ⟨(some 8), (.mov (.tmp 1)), none⟩, ⟨(some 9), (.len (.tmp 8)), none⟩, ⟨(some 10), (.cmp .neq (.tmp 7) (.tmp 9)), none⟩]) (.cond (.tmp 10) (.seq (.ops [⟨(some 4), (.mov (.const (.bool false))), none⟩]) .ret) .skip)) (.seq (.seq (.ops [⟨(some 5), (.mov (.const (.int .i64 0))), none⟩]) (.block 0 (.loop (.seq (.seq (.ops [⟨(some 11), (.mov (.tmp 5)), none⟩, ⟨(some 12), (.mov (.tmp 0)), none⟩, ⟨(some 13), (.len (.tmp 12)), none⟩, ⟨(some 14), (.cmp .lss (.tmp 11) (.tmp 13)), none⟩]) (.cond (.tmp 14) .skip (.exit 0))) (.seq (.block 1 (.seq (.draw [(⟨(some 17), (.mov (.tmp 0)), none⟩, false), (⟨(some 18), (.mov (.tmp 5)), none⟩, false), (⟨(some 19), (.idxAddr 1 (.tmp 17) (.tmp 18)), none⟩, false), (⟨(some 20), (.load (.tmp 19)), none⟩, false), (⟨(some 21), (.mov (.tmp 1)), none⟩, false), (⟨(some 22), (.mov (.tmp 5)), none⟩, false), (⟨(some 23), (.idxAddr 1 (.tmp 21) (.tmp 22)), none⟩, false), (⟨(some 24), (.load (.tmp 23)), none⟩, false), (⟨(some 25), (.cmp .neq (.tmp 20) (.tmp 24)), none⟩, false)]) (.cond (.tmp 25) (.seq (.ops [⟨(some 4), (.mov (.const (.bool false))), none⟩]) .ret) .skip))) (.ops [⟨(some 15), (.mov (.tmp 5)), none⟩, ⟨(some 16), (.arith .add (.tmp 15) (.const (.int .i64 1))), none⟩, ⟨(some 5), (.mov (.tmp 16)), none⟩])))))) (.seq (.ops [⟨(some 4), (.mov (.const (.bool true))), none⟩]) .ret)))), 26, [(.tmp 4)]⟩
theorem c27 : compileFn Go.Proofs.Tryd.prog Go.Proofs.Tryd.f27 = some R27 := by kernel_rfl
theorem n27 : R27.ntmps = 26 := rfl
theorem a27 {args : List Value} {H : AHeap} {Q : Value → AHeap → Prop} (h : AWP Go.Proofs.Tryd.prog none R27.code (Fin R27 Q) (args ++ List.replicate (R27.ntmps - args.length) undef) H) : ACall Go.Proofs.Tryd.prog 27 args H Q := acall_intro mo Go.Proofs.Tryd.func27 c27 h

def R28 : RFunc :=
  ⟨(.seq (.ops [⟨(some 2), (.mov (.const (.int .i64 0))), none⟩]) (.seq (.seq (.ops [⟨(some 4), (.mov (.tmp 0)), none⟩, ⟨(some 5), (.len (.tmp 4)), none⟩, ⟨(some 6), (.cmp .gtr (.tmp 5) (.const (.int .i64 400))), none⟩]) (.cond (.tmp 6) (.seq (.ops [⟨(some 2), (.mov (.const (.int .i64 8))), none⟩]) .ret) .skip)) (.seq (.seq (.ops [⟨(some 3), (.mov (.const (.int .i64 0))), none⟩]) (.block 0 (.loop (.seq (.seq (.ops [⟨(some 7), (.mov (.tmp 3)), none⟩, ⟨(some 8), (.mov (.tmp 0)), none⟩, ⟨(some 9), (.len (.tmp 8)), none⟩, ⟨(some 10), (.cmp .lss (.tmp 7) (.tmp 9)), none⟩]) (.cond (.tmp 10) .skip (.exit 0))) (.seq (.block 1 (.seq (.ops [⟨(some 13), (.mov (.tmp 0)), none⟩, ⟨(some 14), (.mov (.tmp 3)), none⟩, ⟨(some 15), (.idxAddr 1 (.tmp 13) (.tmp 14)), none⟩, ⟨(some 16), (.load (.tmp 15)), none⟩, ⟨(some 17), (.call (.func 30) [(.tmp 16), (.const (.int .i64 (-32767))), (.const (.int .i64 32767))]), none⟩, ⟨(some 18), (.not (.tmp 17)), none⟩]) (.cond (.tmp 18) (.seq (.ops [⟨(some 2), (.mov (.const (.int .i64 2))), none⟩]) .ret) .skip))) (.ops [⟨(some 11), (.mov (.tmp 3)), none⟩, ⟨(some 12), (.arith .add (.tmp 11) (.const (.int .i64 1))), none⟩, ⟨(some 3), (.mov (.tmp 12)), none⟩])))))) (.seq (.ops [⟨(some 2), (.mov (.const (.int .i64 0))), none⟩]) .ret)))), 19, [(.tmp 2)]⟩
theorem c28 : compileFn Go.Proofs.Tryd.prog Go.Proofs.Tryd.f28 = some R28 := by kernel_rfl
theorem n28 : R28.ntmps = 19 := rfl
theorem a28 {args : List Value} {H : AHeap} {Q : Value → AHeap → Prop} (h : AWP Go.Proofs.Tryd.prog none R28.code (Fin R28 Q) (args ++ List.replicate (R28.ntmps - args.length) undef) H) : ACall Go.Proofs.Tryd.prog 28 args H Q := acall_intro mo Go.Proofs.Tryd.func28 c28 h

def R30 : RFunc :=
  ⟨(.seq (.ops [⟨(some 6), (.mov (.const (.bool false))), none⟩]) (.seq (.ops [⟨(some 7), (.mov (.tmp 1)), none⟩, ⟨(some 8), (.mov (.tmp 0)), none⟩, ⟨(some 9), (.cmp .leq (.tmp 7) (.tmp 8)), none⟩, ⟨(some 10), (.mov (.tmp 9)), none⟩, ⟨(some 11), (.mov (.tmp 0)), (some (10, true))⟩, ⟨(some 12), (.mov (.tmp 2)), (some (10, true))⟩, ⟨(some 13), (.cmp .leq (.tmp 11) (.tmp 12)), (some (10, true))⟩, ⟨(some 14), (.pick (.tmp 10) (.tmp 13) (.const (.bool false))), none⟩, ⟨(some 6), (.mov (.tmp 14)), none⟩]) .ret)), 15, [(.tmp 6)]⟩
theorem c30 : compileFn Go.Proofs.Tryd.prog Go.Proofs.Tryd.f30 = some R30 := by kernel_rfl
theorem n30 : R30.ntmps = 15 := rfl
theorem a30 {args : List Value} {H : AHeap} {Q : Value → AHeap → Prop} (h : AWP Go.Proofs.Tryd.prog none R30.code (Fin R30 Q) (args ++ List.replicate (R30.ntmps - args.length) undef) H) : ACall Go.Proofs.Tryd.prog 30 args H Q := acall_intro mo Go.Proofs.Tryd.func30 c30 h

def R33 : RFunc :=
  ⟨(.seq (.ops [⟨(some 1), (.box (.tmp 0)), none⟩, ⟨(some 2), (.mov (.const (.int .i64 0))), none⟩]) (.seq (.seq (.draw [(⟨(some 7), (.fieldAddr 0 (.tmp 1)), none⟩, false), (⟨(some 8), (.load (.tmp 7)), none⟩, false), (⟨(some 9), (.call (.func 94) [(.tmp 8), (.const (.int .i64 0)), (.const (.int .i64 1))]), none⟩, false), (⟨(some 10), (.call (.func 93) [(.tmp 9), (.const (.int .i64 15))]), none⟩, false), (⟨(some 11), (.fieldAddr 1 (.tmp 1)), none⟩, false), (⟨(some 12), (.load (.tmp 11)), none⟩, false), (⟨(some 13), (.call (.func 95) [(.tmp 12)]), none⟩, false), (⟨(some 14), (.buildSlice 1 2 [(.int .i64 0), (.int .i64 0)] [(0, (1, (.tmp 10))), (1, (1, (.tmp 13)))]), none⟩, false), (⟨(some 15), (.call (.func 88) [(.tmp 14)]), none⟩, false), (⟨(some 3), (.mov (.tmp 15)), none⟩, false)]) (.seq (.ops [⟨(some 16), (.mov (.tmp 3)), none⟩, ⟨(some 17), (.cmp .neq (.tmp 16) (.const (.int .i64 0))), none⟩]) (.cond (.tmp 17) (.seq (.ops [⟨(some 18), (.mov (.tmp 3)), none⟩, ⟨(some 2), (.mov (.tmp 18)), none⟩]) .ret) .skip))) (.seq (.seq (.ops [⟨(some 19), (.fieldAddr 0 (.tmp 1)), none⟩, ⟨(some 20), (.load (.tmp 19)), none⟩, ⟨(some 21), (.cmp .eql (.tmp 20) (.const (.int .i64 0))), none⟩]) (.cond (.tmp 21) (.seq (.ops [⟨(some 4), (.mov (.func 96)), none⟩]) (.seq (.draw [(⟨(some 22), (.mov (.tmp 4)), none⟩, false), (⟨(some 23), (.fieldAddr 2 (.tmp 1)), none⟩, false), (⟨(some 24), (.load (.tmp 23)), none⟩, false), (⟨(some 25), (.call (.tmp 22) [(.tmp 24)]), none⟩, false), (⟨(some 26), (.mov (.tmp 25)), none⟩, false), (⟨(some 27), (.mov (.tmp 4)), (some (26, true))⟩, false), (⟨(some 28), (.fieldAddr 3 (.tmp 1)), (some (26, true))⟩, false), (⟨(some 29), (.load (.tmp 28)), (some (26, true))⟩, false), (⟨(some 30), (.call (.tmp 27) [(.tmp 29)]), (some (26, true))⟩, false), (⟨(some 31), (.pick (.tmp 26) (.tmp 30) (.const (.bool false))), none⟩, false), (⟨(some 32), (.call (.func 93) [(.tmp 31), (.const (.int .i64 2))]), none⟩, false), (⟨(some 33), (.fieldAddr 4 (.tmp 1)), none⟩, false), (⟨(some 34), (.load (.tmp 33)), none⟩, false), (⟨(some 35), (.cmp .eql (.tmp 34) (.const (.int .i64 0))), none⟩, false), (⟨(some 36), (.mov (.tmp 35)), none⟩, false), (⟨(some 37), (.fieldAddr 5 (.tmp 1)), (some (36, true))⟩, false), (⟨(some 38), (.fieldAddr 0 (.tmp 37)), (some (36, true))⟩, false), (⟨(some 39), (.load (.tmp 38)), (some (36, true))⟩, false), (⟨(some 40), (.len (.tmp 39)), (some (36, true))⟩, false), (⟨(some 41), (.cmp .eql (.tmp 40) (.const (.int .i64 0))), (some (36, true))⟩, false), (⟨(some 42), (.pick (.tmp 36) (.tmp 41) (.const (.bool false))), none⟩, false), (⟨(some 43), (.call (.func 93) [(.tmp 42), (.const (.int .i64 3))]), none⟩, false), (⟨(some 44), (.buildSlice 1 2 [(.int .i64 0), (.int .i64 0)] [(0, (1, (.tmp 32))), (1, (1, (.tmp 43)))]), none⟩, false), (⟨(some 45), (.call (.func 88) [(.tmp 44)]), none⟩, false), (⟨(some 2), (.mov (.tmp 45)), none⟩, false)]) .ret)) .skip)) (.seq (.ops [⟨(some 47), (.fieldAddr 5 (.tmp 1)), none⟩, ⟨(some 48), (.loadN 1 (.tmp 47)), none⟩, ⟨(some 49), (.call (.func 97) [(.tmp 48)]), none⟩, ⟨(some 46), (.mov (.tmp 49)), none⟩, ⟨(some 50), (.extract (.tmp 46) 0), none⟩, ⟨(some 51), (.extract (.tmp 46) 1), none⟩, ⟨(some 5), (.mov (.tmp 50)), none⟩, ⟨(some 6), (.mov (.tmp 51)), none⟩]) (.seq (.draw [(⟨(some 52), (.mov (.tmp 6)), none⟩, false), (⟨(some 53), (.fieldAddr 4 (.tmp 1)), none⟩, false), (⟨(some 54), (.load (.tmp 53)), none⟩, false), (⟨(some 55), (.call (.func 94) [(.tmp 54), (.const (.int .i64 1)), (.const (.int .i64 1000000000000))]), none⟩, false), (⟨(some 56), (.call (.func 93) [(.tmp 55), (.const (.int .i64 2))]), none⟩, false), (⟨(some 57), (.fieldAddr 2 (.tmp 1)), none⟩, false), (⟨(some 58), (.load (.tmp 57)), none⟩, false), (⟨(some 59), (.cmp .eql (.tmp 58) (.const (.int .i64 0))), none⟩, false), (⟨(some 60), (.mov (.tmp 59)), none⟩, false), (⟨(some 61), (.fieldAddr 3 (.tmp 1)), (some (60, true))⟩, false), (⟨(some 62), (.load (.tmp 61)), (some (60, true))⟩, false), (⟨(some 63), (.cmp .eql (.tmp 62) (.const (.int .i64 0))), (some (60, true))⟩, false), (⟨(some 64), (.pick (.tmp 60) (.tmp 63) (.const (.bool false))), none⟩, false), (⟨(some 65), (.call (.func 93) [(.tmp 64), (.const (.int .i64 3))]), none⟩, false), (⟨(some 66), (.buildSlice 1 3 [(.int .i64 0), (.int .i64 0), (.int .i64 0)] [(0, (1, (.tmp 52))), (1, (1, (.tmp 56))), (2, (1, (.tmp 65)))]), none⟩, false), (⟨(some 67), (.call (.func 88) [(.tmp 66)]), none⟩, false), (⟨(some 2), (.mov (.tmp 67)), none⟩, false)]) .ret))))), 68, [(.tmp 2)]⟩
theorem c33 : compileFn Go.Proofs.Tryd.prog Go.Proofs.Tryd.f33 = some R33 := by kernel_rfl
theorem n33 : R33.ntmps = 68 := rfl
theorem a33 {args : List Value} {H : AHeap} {Q : Value → AHeap → Prop} (h : AWP Go.Proofs.Tryd.prog none R33.code (Fin R33 Q) (args ++ List.replicate (R33.ntmps - args.length) undef) H) : ACall Go.Proofs.Tryd.prog 33 args H Q := acall_intro mo Go.Proofs.Tryd.func33 c33 h

def R35 : RFunc :=
  ⟨(.seq (.ops [⟨(some 2), (.mov (.const (.int .i64 0))), none⟩]) (.seq (.ops [⟨(some 3), (.mov (.tmp 0)), none⟩, ⟨(some 4), (.mov (.tmp 0)), none⟩, ⟨(some 5), (.neg (.tmp 4)), none⟩, ⟨(some 6), (.most true (.tmp 3) [(.tmp 5)]), none⟩, ⟨(some 2), (.mov (.tmp 6)), none⟩]) .ret)), 7, [(.tmp 2)]⟩
theorem c35 : compileFn Go.Proofs.Tryd.prog Go.Proofs.Tryd.f35 = some R35 := by kernel_rfl
theorem n35 : R35.ntmps = 7 := rfl
theorem a35 {args : List Value} {H : AHeap} {Q : Value → AHeap → Prop} (h : AWP Go.Proofs.Tryd.prog none R35.code (Fin R35 Q) (args ++ List.replicate (R35.ntmps - args.length) undef) H) : ACall Go.Proofs.Tryd.prog 35 args H Q := acall_intro mo Go.Proofs.Tryd.func35 c35 h

def R37 : RFunc :=
  ⟨(.seq (.ops [⟨(some 6), (.mov (.const (.int .i64 0))), none⟩, ⟨(some 7), (.mov (.const (.int .i64 0))), none⟩, ⟨(some 8), (.mov (.const (.int .i64 0))), none⟩]) (.seq (.seq (.ops [⟨(some 11), (.mov (.tmp 0)), none⟩, ⟨(some 12), (.call (.func 95) [(.tmp 11)]), none⟩, ⟨(some 13), (.mov (.tmp 1)), none⟩, ⟨(some 14), (.call (.func 89) [(.tmp 13)]), none⟩, ⟨(some 15), (.mov (.tmp 2)), none⟩, ⟨(some 16), (.mov (.tmp 1)), none⟩, ⟨(some 17), (.len (.tmp 16)), none⟩, ⟨(some 18), (.arith .sub (.tmp 17) (.const (.int .i64 1))), none⟩, ⟨(some 19), (.arith .mul (.const (.int .i64 64)) (.tmp 18)), none⟩, ⟨(some 20), (.call (.func 94) [(.tmp 15), (.const (.int .i64 0)), (.tmp 19)]), none⟩, ⟨(some 21), (.call (.func 93) [(.tmp 20), (.const (.int .i64 2))]), none⟩, ⟨(some 22), (.buildSlice 1 3 [(.int .i64 0), (.int .i64 0), (.int .i64 0)] [(0, (1, (.tmp 12))), (1, (1, (.tmp 14))), (2, (1, (.tmp 21)))]), none⟩, ⟨(some 23), (.call (.func 88) [(.tmp 22)]), none⟩, ⟨(some 9), (.mov (.tmp 23)), none⟩]) (.seq (.ops [⟨(some 24), (.mov (.tmp 9)), none⟩, ⟨(some 25), (.cmp .neq (.tmp 24) (.const (.int .i64 0))), none⟩]) (.cond (.tmp 25) (.seq (.ops [⟨(some 26), (.mov (.tmp 9)), none⟩, ⟨(some 6), (.mov (.const (.int .i64 0))), none⟩, ⟨(some 7), (.mov (.const (.int .i64 0))), none⟩, ⟨(some 8), (.mov (.tmp 26)), none⟩]) .ret) .skip))) (.seq (.ops [⟨(some 27), (.mov (.tmp 0)), none⟩, ⟨(some 28), (.idxAddrA 4 5 (.global 0) (.tmp 27)), none⟩, ⟨(some 29), (.loadN 5 (.tmp 28)), none⟩, ⟨(some 10), (.new [(.int .i64 0), (.int .i64 0), .nilFunc, .nilFunc, (.int .i64 0)]), none⟩, ⟨none, (.store 5 (.tmp 10) (.tmp 29)), none⟩]) (.seq (.draw [(⟨(some 30), (.loadN 5 (.tmp 10)), none⟩, false), (⟨(some 31), (.mov (.tmp 1)), none⟩, false), (⟨(some 32), (.mov (.tmp 2)), none⟩, false), (⟨(some 33), (.call (.func 92) [(.tmp 30), (.tmp 31), (.tmp 32)]), none⟩, false), (⟨(some 34), (.fieldAddr 1 (.tmp 10)), none⟩, false), (⟨(some 35), (.load (.tmp 34)), none⟩, false), (⟨(some 6), (.mov (.tmp 33)), none⟩, false), (⟨(some 7), (.mov (.tmp 35)), none⟩, false), (⟨(some 8), (.mov (.const (.int .i64 0))), none⟩, false)]) .ret)))), 36, [(.tmp 6), (.tmp 7), (.tmp 8)]⟩
theorem c37 : compileFn Go.Proofs.Tryd.prog Go.Proofs.Tryd.f37 = some R37 := by kernel_rfl
theorem n37 : R37.ntmps = 36 := rfl
theorem a37 {args : List Value} {H : AHeap} {Q : Value → AHeap → Prop} (h : AWP Go.Proofs.Tryd.prog none R37.code (Fin R37 Q) (args ++ List.replicate (R37.ntmps - args.length) undef) H) : ACall Go.Proofs.Tryd.prog 37 args H Q := acall_intro mo Go.Proofs.Tryd.func37 c37 h

def R41 : RFunc :=
  ⟨(.seq (.ops [⟨(some 2), (.box (.tmp 0)), none⟩, ⟨(some 4), (.mov (.const (.int .i64 0))), none⟩, ⟨(some 5), (.mov (.const (.int .i64 0))), none⟩]) (.seq (.seq (.draw [(⟨(some 10), (.loadN 3 (.tmp 2)), none⟩, false), (⟨(some 11), (.call (.func 72) [(.tmp 10)]), none⟩, false), (⟨(some 12), (.mov (.tmp 1)), none⟩, false), (⟨(some 13), (.call (.func 100) [(.tmp 12)]), none⟩, false), (⟨(some 14), (.loadN 3 (.tmp 2)), none⟩, false), (⟨(some 15), (.call (.func 101) [(.tmp 14)]), none⟩, false), (⟨(some 16), (.fieldAddr 2 (.tmp 2)), none⟩, false), (⟨(some 17), (.load (.tmp 16)), none⟩, false), (⟨(some 18), (.cmp .lss (.tmp 15) (.tmp 17)), none⟩, false), (⟨(some 19), (.call (.func 93) [(.tmp 18), (.const (.int .i64 22))]), none⟩, false), (⟨(some 20), (.buildSlice 1 3 [(.int .i64 0), (.int .i64 0), (.int .i64 0)] [(0, (1, (.tmp 11))), (1, (1, (.tmp 13))), (2, (1, (.tmp 19)))]), none⟩, false), (⟨(some 21), (.call (.func 88) [(.tmp 20)]), none⟩, false), (⟨(some 6), (.mov (.tmp 21)), none⟩, false)]) (.seq (.ops [⟨(some 22), (.mov (.tmp 6)), none⟩, ⟨(some 23), (.cmp .neq (.tmp 22) (.const (.int .i64 0))), none⟩]) (.cond (.tmp 23) (.seq (.ops [⟨(some 24), (.mov (.tmp 6)), none⟩, ⟨(some 4), (.mov (.const (.int .i64 0))), none⟩, ⟨(some 5), (.mov (.tmp 24)), none⟩]) .ret) .skip))) (.seq (.ops [⟨(some 7), (.mov (.const (.int .i64 (-1)))), none⟩, ⟨(some 8), (.mov (.const (.int .i64 1000000000000000))), none⟩]) (.seq (.block 0 (.loop (.seq (.seq (.ops [⟨(some 25), (.mov (.tmp 7)), none⟩, ⟨(some 26), (.arith .add (.tmp 25) (.const (.int .i64 1))), none⟩, ⟨(some 27), (.mov (.tmp 8)), none⟩, ⟨(some 28), (.cmp .lss (.tmp 26) (.tmp 27)), none⟩]) (.cond (.tmp 28) .skip (.exit 0))) (.block 1 (.seq (.ops [⟨(some 29), (.mov (.tmp 7)), none⟩, ⟨(some 30), (.mov (.tmp 8)), none⟩, ⟨(some 31), (.arith .add (.tmp 29) (.tmp 30)), none⟩, ⟨(some 32), (.arith .quo (.tmp 31) (.const (.int .i64 2))), none⟩, ⟨(some 9), (.mov (.tmp 32)), none⟩]) (.seq (.ops [⟨(some 33), (.loadN 3 (.tmp 2)), none⟩, ⟨(some 34), (.mov (.tmp 1)), none⟩, ⟨(some 35), (.mov (.tmp 9)), none⟩, ⟨(some 36), (.call (.func 102) [(.tmp 33), (.tmp 34), (.tmp 35)]), none⟩]) (.cond (.tmp 36) (.ops [⟨(some 37), (.mov (.tmp 9)), none⟩, ⟨(some 8), (.mov (.tmp 37)), none⟩]) (.ops [⟨(some 38), (.mov (.tmp 9)), none⟩, ⟨(some 7), (.mov (.tmp 38)), none⟩])))))))) (.seq (.ops [⟨(some 39), (.mov (.tmp 8)), none⟩, ⟨(some 4), (.mov (.tmp 39)), none⟩, ⟨(some 5), (.mov (.const (.int .i64 0))), none⟩]) .ret))))), 40, [(.tmp 4), (.tmp 5)]⟩
theorem c41 : compileFn Go.Proofs.Tryd.prog Go.Proofs.Tryd.f41 = some R41 := by kernel_rfl
theorem n41 : R41.ntmps = 40 := rfl
theorem a41 {args : List Value} {H : AHeap} {Q : Value → AHeap → Prop} (h : AWP Go.Proofs.Tryd.prog none R41.code (Fin R41 Q) (args ++ List.replicate (R41.ntmps - args.length) undef) H) : ACall Go.Proofs.Tryd.prog 41 args H Q := acall_intro mo Go.Proofs.Tryd.func41 c41 h

end Go.Lq

namespace Go.Lq
open Go

def R54 : RFunc :=
  ⟨(.seq (.ops [⟨(some 4), (.mov (.const (.int .i64 0))), none⟩]) (.seq (.ops [⟨(some 6), (.mov (.tmp 0)), none⟩, ⟨(some 7), (.mov (.tmp 1)), none⟩, ⟨(some 8), (.arith .quo (.tmp 6) (.tmp 7)), none⟩, ⟨(some 5), (.mov (.tmp 8)), none⟩]) (.seq (.seq (.ops [⟨(some 9), (.mov (.tmp 0)), none⟩, ⟨(some 10), (.mov (.tmp 1)), none⟩, ⟨(some 11), (.arith .rem (.tmp 9) (.tmp 10)), none⟩, ⟨(some 12), (.cmp .lss (.tmp 11) (.const (.int .i64 0))), none⟩]) (.cond (.tmp 12) (.ops [⟨(some 13), (.mov (.tmp 5)), none⟩, ⟨(some 14), (.arith .sub (.tmp 13) (.const (.int .i64 1))), none⟩, ⟨(some 5), (.mov (.tmp 14)), none⟩]) .skip)) (.seq (.ops [⟨(some 15), (.mov (.tmp 5)), none⟩, ⟨(some 4), (.mov (.tmp 15)), none⟩]) .ret)))), 16, [(.tmp 4)]⟩
theorem c54 : compileFn Go.Proofs.Tryd.prog Go.Proofs.Tryd.f54 = some R54 := by kernel_rfl
theorem n54 : R54.ntmps = 16 := rfl
theorem a54 {args : List Value} {H : AHeap} {Q : Value → AHeap → Prop} (h : AWP Go.Proofs.Tryd.prog none R54.code (Fin R54 Q) (args ++ List.replicate (R54.ntmps - args.length) undef) H) : ACall Go.Proofs.Tryd.prog 54 args H Q := acall_intro mo Go.Proofs.Tryd.func54 c54 h

def R55 : RFunc :=
  ⟨(.seq (.ops [⟨(some 1), (.box (.tmp 0)), none⟩, ⟨(some 2), (.mov (.const (.bool false))), none⟩]) (.seq (.ops [⟨(some 3), (.fieldAddr 0 (.tmp 1)), none⟩, ⟨(some 4), (.load (.tmp 3)), none⟩, ⟨(some 5), (.len (.tmp 4)), none⟩, ⟨(some 6), (.cmp .leq (.tmp 5) (.const (.int .i64 10))), none⟩, ⟨(some 2), (.mov (.tmp 6)), none⟩]) .ret)), 7, [(.tmp 2)]⟩
theorem c55 : compileFn Go.Proofs.Tryd.prog Go.Proofs.Tryd.f55 = some R55 := by kernel_rfl
theorem n55 : R55.ntmps = 7 := rfl
theorem a55 {args : List Value} {H : AHeap} {Q : Value → AHeap → Prop} (h : AWP Go.Proofs.Tryd.prog none R55.code (Fin R55 Q) (args ++ List.replicate (R55.ntmps - args.length) undef) H) : ACall Go.Proofs.Tryd.prog 55 args H Q := acall_intro mo Go.Proofs.Tryd.func55 c55 h

def R56 : RFunc :=
  ⟨(.seq (.ops [⟨(some 2), (.box (.tmp 0)), none⟩, ⟨(some 4), (.mov (.const (.slice none 0 0))), none⟩, ⟨(some 5), (.mov (.const (.int .i64 0))), none⟩]) (.seq (.seq (.ops [⟨(some 12), (.loadN 2 (.tmp 2)), none⟩, ⟨(some 13), (.call (.func 59) [(.tmp 12)]), none⟩, ⟨(some 14), (.mov (.tmp 1)), none⟩, ⟨(some 15), (.call (.func 89) [(.tmp 14)]), none⟩, ⟨(some 16), (.buildSlice 1 2 [(.int .i64 0), (.int .i64 0)] [(0, (1, (.tmp 13))), (1, (1, (.tmp 15)))]), none⟩, ⟨(some 17), (.call (.func 88) [(.tmp 16)]), none⟩, ⟨(some 6), (.mov (.tmp 17)), none⟩]) (.seq (.ops [⟨(some 18), (.mov (.tmp 6)), none⟩, ⟨(some 19), (.cmp .neq (.tmp 18) (.const (.int .i64 0))), none⟩]) (.cond (.tmp 19) (.seq (.ops [⟨(some 20), (.mov (.tmp 6)), none⟩, ⟨(some 4), (.mov (.const (.slice none 0 0))), none⟩, ⟨(some 5), (.mov (.tmp 20)), none⟩]) .ret) .skip))) (.seq (.ops [⟨(some 7), (.mov (.const (.slice none 0 0))), none⟩]) (.seq (.seq (.ops [⟨(some 21), (.mov (.tmp 1)), none⟩, ⟨(some 22), (.len (.tmp 21)), none⟩, ⟨(some 23), (.mov (.const (.int .i64 0))), none⟩]) (.block 0 (.loop (.seq (.ops [⟨(some 24), (.cmp .lss (.tmp 23) (.tmp 22)), none⟩]) (.seq (.cond (.tmp 24) .skip (.exit 0)) (.seq (.block 1 (.seq (.ops [⟨(some 25), (.mov (.tmp 23)), none⟩, ⟨(some 8), (.mov (.tmp 25)), none⟩]) (.seq (.ops [⟨(some 9), (.mov (.const (.int .i64 0))), none⟩]) (.seq (.seq (.ops [⟨(some 26), (.fieldAddr 0 (.tmp 2)), none⟩, ⟨(some 27), (.load (.tmp 26)), none⟩, ⟨(some 28), (.len (.tmp 27)), none⟩, ⟨(some 29), (.mov (.const (.int .i64 0))), none⟩]) (.block 2 (.loop (.seq (.ops [⟨(some 30), (.cmp .lss (.tmp 29) (.tmp 28)), none⟩]) (.seq (.cond (.tmp 30) .skip (.exit 2)) (.seq (.block 3 (.seq (.ops [⟨(some 31), (.mov (.tmp 29)), none⟩, ⟨(some 32), (.idxAddr 1 (.tmp 27) (.tmp 29)), none⟩, ⟨(some 33), (.load (.tmp 32)), none⟩, ⟨(some 10), (.mov (.tmp 31)), none⟩, ⟨(some 11), (.mov (.tmp 33)), none⟩]) (.seq (.ops [⟨(some 34), (.mov (.tmp 10)), none⟩, ⟨(some 35), (.mov (.tmp 8)), none⟩, ⟨(some 36), (.cmp .leq (.tmp 34) (.tmp 35)), none⟩]) (.cond (.tmp 36) (.ops [⟨(some 37), (.mov (.tmp 9)), none⟩, ⟨(some 38), (.mov (.tmp 11)), none⟩, ⟨(some 39), (.mov (.tmp 1)), none⟩, ⟨(some 40), (.mov (.tmp 8)), none⟩, ⟨(some 41), (.mov (.tmp 10)), none⟩, ⟨(some 42), (.arith .sub (.tmp 40) (.tmp 41)), none⟩, ⟨(some 43), (.idxAddr 1 (.tmp 39) (.tmp 42)), none⟩, ⟨(some 44), (.load (.tmp 43)), none⟩, ⟨(some 45), (.arith .mul (.tmp 38) (.tmp 44)), none⟩, ⟨(some 46), (.arith .add (.tmp 37) (.tmp 45)), none⟩, ⟨(some 9), (.mov (.tmp 46)), none⟩]) .skip)))) (.ops [⟨(some 47), (.arith .add (.tmp 29) (.const (.int .i64 1))), none⟩, ⟨(some 29), (.mov (.tmp 47)), none⟩]))))))) (.ops [⟨(some 48), (.mov (.tmp 7)), none⟩, ⟨(some 49), (.mov (.tmp 9)), none⟩, ⟨(some 50), (.fieldAddr 1 (.tmp 2)), none⟩, ⟨(some 51), (.load (.tmp 50)), none⟩, ⟨(some 52), (.call (.func 91) [(.tmp 49), (.tmp 51)]), none⟩, ⟨(some 53), (.buildSlice 1 1 [(.int .i64 0)] [(0, (1, (.tmp 52)))]), none⟩, ⟨(some 54), (.append 1 8 (.tmp 48) (.tmp 53)), none⟩, ⟨(some 7), (.mov (.tmp 54)), none⟩]))))) (.ops [⟨(some 55), (.arith .add (.tmp 23) (.const (.int .i64 1))), none⟩, ⟨(some 23), (.mov (.tmp 55)), none⟩]))))))) (.seq (.ops [⟨(some 56), (.mov (.tmp 7)), none⟩, ⟨(some 4), (.mov (.tmp 56)), none⟩, ⟨(some 5), (.mov (.const (.int .i64 0))), none⟩]) .ret))))), 57, [(.tmp 4), (.tmp 5)]⟩
theorem c56 : compileFn Go.Proofs.Tryd.prog Go.Proofs.Tryd.f56 = some R56 := by kernel_rfl
theorem n56 : R56.ntmps = 57 := rfl
theorem a56 {args : List Value} {H : AHeap} {Q : Value → AHeap → Prop} (h : AWP Go.Proofs.Tryd.prog none R56.code (Fin R56 Q) (args ++ List.replicate (R56.ntmps - args.length) undef) H) : ACall Go.Proofs.Tryd.prog 56 args H Q := acall_intro mo Go.Proofs.Tryd.func56 c56 h

def R57 : RFunc :=
  ⟨(.seq (.ops [⟨(some 1), (.box (.tmp 0)), none⟩, ⟨(some 2), (.new [(.slice none 0 0), (.int .i64 0)]), none⟩]) (.seq (.draw [(⟨(some 3), (.fieldAddr 0 (.tmp 1)), none⟩, false), (⟨(some 4), (.load (.tmp 3)), none⟩, false), (⟨(some 5), (.call (.func 25) [(.tmp 4)]), none⟩, false), (⟨(some 6), (.fieldAddr 1 (.tmp 1)), none⟩, false), (⟨(some 7), (.load (.tmp 6)), none⟩, false), (⟨(some 8), (.build [(.slice none 0 0), (.int .i64 0)] [(0, (1, (.tmp 5))), (1, (1, (.tmp 7)))]), none⟩, false), (⟨none, (.store 2 (.tmp 2) (.tmp 8)), none⟩, false)]) .ret)), 9, [(.loadN 2 2)]⟩
theorem c57 : compileFn Go.Proofs.Tryd.prog Go.Proofs.Tryd.f57 = some R57 := by kernel_rfl
theorem n57 : R57.ntmps = 9 := rfl
theorem a57 {args : List Value} {H : AHeap} {Q : Value → AHeap → Prop} (h : AWP Go.Proofs.Tryd.prog none R57.code (Fin R57 Q) (args ++ List.replicate (R57.ntmps - args.length) undef) H) : ACall Go.Proofs.Tryd.prog 57 args H Q := acall_intro mo Go.Proofs.Tryd.func57 c57 h

def R58 : RFunc :=
  ⟨(.seq (.ops [⟨(some 1), (.box (.tmp 0)), none⟩, ⟨(some 2), (.mov (.const (.int .i64 0))), none⟩]) (.seq (.seq (.ops [⟨(some 4), (.fieldAddr 0 (.tmp 1)), none⟩, ⟨(some 5), (.load (.tmp 4)), none⟩, ⟨(some 6), (.len (.tmp 5)), none⟩, ⟨(some 7), (.cmp .eql (.tmp 6) (.const (.int .i64 0))), none⟩]) (.cond (.tmp 7) (.seq (.ops [⟨(some 2), (.mov (.const (.int .i64 10))), none⟩]) .ret) .skip)) (.seq (.seq (.ops [⟨(some 8), (.fieldAddr 0 (.tmp 1)), none⟩, ⟨(some 9), (.load (.tmp 8)), none⟩, ⟨(some 10), (.len (.tmp 9)), none⟩, ⟨(some 11), (.cmp .gtr (.tmp 10) (.const (.int .i64 8))), none⟩]) (.cond (.tmp 11) (.seq (.ops [⟨(some 2), (.mov (.const (.int .i64 8))), none⟩]) .ret) .skip)) (.seq (.seq (.ops [⟨(some 3), (.mov (.const (.int .i64 0))), none⟩]) (.block 0 (.loop (.seq (.seq (.ops [⟨(some 12), (.mov (.tmp 3)), none⟩, ⟨(some 13), (.fieldAddr 0 (.tmp 1)), none⟩, ⟨(some 14), (.load (.tmp 13)), none⟩, ⟨(some 15), (.len (.tmp 14)), none⟩, ⟨(some 16), (.cmp .lss (.tmp 12) (.tmp 15)), none⟩]) (.cond (.tmp 16) .skip (.exit 0))) (.seq (.block 1 (.seq (.ops [⟨(some 19), (.fieldAddr 0 (.tmp 1)), none⟩, ⟨(some 20), (.load (.tmp 19)), none⟩, ⟨(some 21), (.mov (.tmp 3)), none⟩, ⟨(some 22), (.idxAddr 1 (.tmp 20) (.tmp 21)), none⟩, ⟨(some 23), (.load (.tmp 22)), none⟩, ⟨(some 24), (.call (.func 30) [(.tmp 23), (.const (.int .i64 (-1000))), (.const (.int .i64 1000))]), none⟩, ⟨(some 25), (.not (.tmp 24)), none⟩]) (.cond (.tmp 25) (.seq (.ops [⟨(some 2), (.mov (.const (.int .i64 2))), none⟩]) .ret) .skip))) (.ops [⟨(some 17), (.mov (.tmp 3)), none⟩, ⟨(some 18), (.arith .add (.tmp 17) (.const (.int .i64 1))), none⟩, ⟨(some 3), (.mov (.tmp 18)), none⟩])))))) (.seq (.seq (.ops [⟨(some 26), (.fieldAddr 1 (.tmp 1)), none⟩, ⟨(some 27), (.load (.tmp 26)), none⟩, ⟨(some 28), (.call (.func 30) [(.tmp 27), (.const (.int .i64 1)), (.const (.int .i64 1000))]), none⟩, ⟨(some 29), (.not (.tmp 28)), none⟩]) (.cond (.tmp 29) (.seq (.ops [⟨(some 2), (.mov (.const (.int .i64 2))), none⟩]) .ret) .skip)) (.seq (.ops [⟨(some 2), (.mov (.const (.int .i64 0))), none⟩]) .ret)))))), 30, [(.tmp 2)]⟩
theorem c58 : compileFn Go.Proofs.Tryd.prog Go.Proofs.Tryd.f58 = some R58 := by kernel_rfl
theorem n58 : R58.ntmps = 30 := rfl
theorem a58 {args : List Value} {H : AHeap} {Q : Value → AHeap → Prop} (h : AWP Go.Proofs.Tryd.prog none R58.code (Fin R58 Q) (args ++ List.replicate (R58.ntmps - args.length) undef) H) : ACall Go.Proofs.Tryd.prog 58 args H Q := acall_intro mo Go.Proofs.Tryd.func58 c58 h

def R59 : RFunc :=
  ⟨(.seq (.ops [⟨(some 1), (.box (.tmp 0)), none⟩, ⟨(some 2), (.mov (.const (.int .i64 0))), none⟩]) (.seq (.ops [⟨(some 4), (.fieldAddr 0 (.tmp 1)), none⟩, ⟨(some 5), (.load (.tmp 4)), none⟩, ⟨(some 6), (.call (.func 113) [(.tmp 5), (.func 114)]), none⟩, ⟨(some 3), (.mov (.tmp 6)), none⟩]) (.seq (.draw [(⟨(some 7), (.fieldAddr 0 (.tmp 1)), none⟩, false), (⟨(some 8), (.load (.tmp 7)), none⟩, false), (⟨(some 9), (.len (.tmp 8)), none⟩, false), (⟨(some 10), (.cmp .gtr (.tmp 9) (.const (.int .i64 0))), none⟩, false), (⟨(some 11), (.call (.func 93) [(.tmp 10), (.const (.int .i64 10))]), none⟩, false), (⟨(some 12), (.fieldAddr 0 (.tmp 1)), none⟩, false), (⟨(some 13), (.load (.tmp 12)), none⟩, false), (⟨(some 14), (.len (.tmp 13)), none⟩, false), (⟨(some 15), (.cmp .leq (.tmp 14) (.const (.int .i64 8))), none⟩, false), (⟨(some 16), (.call (.func 93) [(.tmp 15), (.const (.int .i64 8))]), none⟩, false), (⟨(some 17), (.mov (.tmp 3)), none⟩, false), (⟨(some 18), (.not (.tmp 17)), none⟩, false), (⟨(some 19), (.mov (.tmp 18)), none⟩, false), (⟨(some 20), (.fieldAddr 1 (.tmp 1)), (some (19, true))⟩, false), (⟨(some 21), (.load (.tmp 20)), (some (19, true))⟩, false), (⟨(some 22), (.call (.func 116) [(.tmp 21)]), (some (19, true))⟩, false), (⟨(some 23), (.pick (.tmp 19) (.tmp 22) (.const (.bool false))), none⟩, false), (⟨(some 24), (.call (.func 93) [(.tmp 23), (.const (.int .i64 2))]), none⟩, false), (⟨(some 25), (.buildSlice 1 3 [(.int .i64 0), (.int .i64 0), (.int .i64 0)] [(0, (1, (.tmp 11))), (1, (1, (.tmp 16))), (2, (1, (.tmp 24)))]), none⟩, false), (⟨(some 26), (.call (.func 88) [(.tmp 25)]), none⟩, false), (⟨(some 2), (.mov (.tmp 26)), none⟩, false)]) .ret))), 27, [(.tmp 2)]⟩
theorem c59 : compileFn Go.Proofs.Tryd.prog Go.Proofs.Tryd.f59 = some R59 := by kernel_rfl
theorem n59 : R59.ntmps = 27 := rfl
theorem a59 {args : List Value} {H : AHeap} {Q : Value → AHeap → Prop} (h : AWP Go.Proofs.Tryd.prog none R59.code (Fin R59 Q) (args ++ List.replicate (R59.ntmps - args.length) undef) H) : ACall Go.Proofs.Tryd.prog 59 args H Q := acall_intro mo Go.Proofs.Tryd.func59 c59 h

def R60 : RFunc :=
  ⟨(.seq (.ops [⟨(some 2), (.box (.tmp 0)), none⟩, ⟨(some 4), (.mov (.const (.slice none 0 0))), none⟩]) (.seq (.ops [⟨(some 5), (.mov (.const (.slice none 0 0))), none⟩]) (.seq (.seq (.ops [⟨(some 6), (.mov (.const (.int .i64 0))), none⟩]) (.block 0 (.loop (.seq (.seq (.ops [⟨(some 7), (.mov (.tmp 6)), none⟩, ⟨(some 8), (.mov (.tmp 1)), none⟩, ⟨(some 9), (.len (.tmp 8)), none⟩, ⟨(some 10), (.cmp .lss (.tmp 7) (.tmp 9)), none⟩]) (.cond (.tmp 10) .skip (.exit 0))) (.seq (.block 1 (.draw [(⟨(some 13), (.mov (.tmp 5)), none⟩, false), (⟨(some 14), (.loadN 2 (.tmp 2)), none⟩, false), (⟨(some 15), (.mov (.tmp 1)), none⟩, false), (⟨(some 16), (.mov (.tmp 6)), none⟩, false), (⟨(some 17), (.call (.func 85) [(.tmp 14), (.tmp 15), (.tmp 16)]), none⟩, false), (⟨(some 18), (.fieldAddr 1 (.tmp 2)), none⟩, false), (⟨(some 19), (.load (.tmp 18)), none⟩, false), (⟨(some 20), (.call (.func 54) [(.tmp 17), (.tmp 19)]), none⟩, false), (⟨(some 21), (.buildSlice 1 1 [(.int .i64 0)] [(0, (1, (.tmp 20)))]), none⟩, false), (⟨(some 22), (.append 1 8 (.tmp 13) (.tmp 21)), none⟩, false), (⟨(some 5), (.mov (.tmp 22)), none⟩, false)])) (.ops [⟨(some 11), (.mov (.tmp 6)), none⟩, ⟨(some 12), (.arith .add (.tmp 11) (.const (.int .i64 1))), none⟩, ⟨(some 6), (.mov (.tmp 12)), none⟩])))))) (.seq (.ops [⟨(some 23), (.mov (.tmp 5)), none⟩, ⟨(some 4), (.mov (.tmp 23)), none⟩]) .ret)))), 24, [(.tmp 4)]⟩
theorem c60 : compileFn Go.Proofs.Tryd.prog Go.Proofs.Tryd.f60 = some R60 := by kernel_rfl
theorem n60 : R60.ntmps = 24 := rfl
theorem a60 {args : List Value} {H : AHeap} {Q : Value → AHeap → Prop} (h : AWP Go.Proofs.Tryd.prog none R60.code (Fin R60 Q) (args ++ List.replicate (R60.ntmps - args.length) undef) H) : ACall Go.Proofs.Tryd.prog 60 args H Q := acall_intro mo Go.Proofs.Tryd.func60 c60 h

def R64 : RFunc :=
  ⟨(.seq (.ops [⟨(some 2), (.new [(.int .i64 0), (.int .i64 0)]), none⟩, ⟨(some 3), (.mov (.const (.int .i64 0))), none⟩]) (.seq (.seq (.ops [⟨(some 9), (.mov (.tmp 0)), none⟩, ⟨(some 10), (.call (.func 95) [(.tmp 9)]), none⟩, ⟨(some 4), (.mov (.tmp 10)), none⟩]) (.seq (.ops [⟨(some 11), (.mov (.tmp 4)), none⟩, ⟨(some 12), (.cmp .neq (.tmp 11) (.const (.int .i64 0))), none⟩]) (.cond (.tmp 12) (.seq (.ops [⟨(some 13), (.build [(.int .i64 0), (.int .i64 0)] []), none⟩, ⟨(some 14), (.mov (.tmp 4)), none⟩, ⟨none, (.store 2 (.tmp 2) (.tmp 13)), none⟩, ⟨(some 3), (.mov (.tmp 14)), none⟩]) .ret) .skip))) (.seq (.ops [⟨(some 15), (.mov (.tmp 0)), none⟩, ⟨(some 16), (.idxAddrA 4 5 (.global 0) (.tmp 15)), none⟩, ⟨(some 17), (.loadN 5 (.tmp 16)), none⟩, ⟨(some 5), (.new [(.int .i64 0), (.int .i64 0), .nilFunc, .nilFunc, (.int .i64 0)]), none⟩, ⟨none, (.store 5 (.tmp 5) (.tmp 17)), none⟩]) (.seq (.ops [⟨(some 6), (.mov (.const (.int .i64 0))), none⟩]) (.seq (.seq (.ops [⟨(some 18), (.mov (.const (.int .i64 0))), none⟩]) (.block 0 (.loop (.seq (.ops [⟨(some 19), (.cmp .lss (.tmp 18) (.const (.int .i64 64))), none⟩]) (.seq (.cond (.tmp 19) .skip (.exit 0)) (.seq (.block 1 (.seq (.ops [⟨(some 20), (.mov (.tmp 18)), none⟩, ⟨(some 7), (.mov (.tmp 20)), none⟩]) (.seq (.ops [⟨(some 21), (.fieldAddr 3 (.tmp 5)), none⟩, ⟨(some 22), (.load (.tmp 21)), none⟩, ⟨(some 23), (.mov (.tmp 7)), none⟩, ⟨(some 24), (.call (.tmp 22) [(.tmp 23)]), none⟩, ⟨(some 8), (.mov (.tmp 24)), none⟩]) (.ops [⟨(some 25), (.mov (.tmp 6)), none⟩, ⟨(some 26), (.mov (.tmp 8)), none⟩, ⟨(some 27), (.mov (.tmp 8)), none⟩, ⟨(some 28), (.neg (.tmp 27)), none⟩, ⟨(some 29), (.most true (.tmp 25) [(.tmp 26), (.tmp 28)]), none⟩, ⟨(some 6), (.mov (.tmp 29)), none⟩])))) (.ops [⟨(some 30), (.arith .add (.tmp 18) (.const (.int .i64 1))), none⟩, ⟨(some 18), (.mov (.tmp 30)), none⟩]))))))) (.seq (.ops [⟨(some 31), (.mov (.tmp 6)), none⟩, ⟨(some 32), (.fieldAddr 4 (.tmp 5)), none⟩, ⟨(some 33), (.load (.tmp 32)), none⟩, ⟨(some 34), (.call (.func 121) [(.tmp 31), (.tmp 33)]), none⟩, ⟨none, (.store 2 (.tmp 2) (.tmp 34)), none⟩, ⟨(some 3), (.mov (.const (.int .i64 0))), none⟩]) .ret)))))), 35, [(.loadN 2 2), (.tmp 3)]⟩
theorem c64 : compileFn Go.Proofs.Tryd.prog Go.Proofs.Tryd.f64 = some R64 := by kernel_rfl
theorem n64 : R64.ntmps = 35 := rfl
theorem a64 {args : List Value} {H : AHeap} {Q : Value → AHeap → Prop} (h : AWP Go.Proofs.Tryd.prog none R64.code (Fin R64 Q) (args ++ List.replicate (R64.ntmps - args.length) undef) H) : ACall Go.Proofs.Tryd.prog 64 args H Q := acall_intro mo Go.Proofs.Tryd.func64 c64 h

def R72 : RFunc :=
  ⟨(.seq (.ops [⟨(some 1), (.box (.tmp 0)), none⟩, ⟨(some 2), (.mov (.const (.int .i64 0))), none⟩]) (.seq (.ops [⟨(some 3), (.fieldAddr 0 (.tmp 1)), none⟩, ⟨(some 4), (.load (.tmp 3)), none⟩, ⟨(some 5), (.call (.func 115) [(.tmp 4)]), none⟩, ⟨(some 6), (.mov (.tmp 5)), none⟩, ⟨(some 7), (.fieldAddr 1 (.tmp 1)), (some (6, true))⟩, ⟨(some 8), (.load (.tmp 7)), (some (6, true))⟩, ⟨(some 9), (.call (.func 115) [(.tmp 8)]), (some (6, true))⟩, ⟨(some 10), (.pick (.tmp 6) (.tmp 9) (.const (.bool false))), none⟩, ⟨(some 11), (.mov (.tmp 10)), none⟩, ⟨(some 12), (.fieldAddr 2 (.tmp 1)), (some (11, true))⟩, ⟨(some 13), (.load (.tmp 12)), (some (11, true))⟩, ⟨(some 14), (.call (.func 116) [(.tmp 13)]), (some (11, true))⟩, ⟨(some 15), (.pick (.tmp 11) (.tmp 14) (.const (.bool false))), none⟩, ⟨(some 16), (.call (.func 93) [(.tmp 15), (.const (.int .i64 2))]), none⟩, ⟨(some 2), (.mov (.tmp 16)), none⟩]) .ret)), 17, [(.tmp 2)]⟩
theorem c72 : compileFn Go.Proofs.Tryd.prog Go.Proofs.Tryd.f72 = some R72 := by kernel_rfl
theorem n72 : R72.ntmps = 17 := rfl
theorem a72 {args : List Value} {H : AHeap} {Q : Value → AHeap → Prop} (h : AWP Go.Proofs.Tryd.prog none R72.code (Fin R72 Q) (args ++ List.replicate (R72.ntmps - args.length) undef) H) : ACall Go.Proofs.Tryd.prog 72 args H Q := acall_intro mo Go.Proofs.Tryd.func72 c72 h

def R76 : RFunc :=
  ⟨(.seq (.ops [⟨(some 4), (.mov (.const (.int .i64 0))), none⟩]) (.seq (.ops [⟨(some 5), (.mov (.tmp 0)), none⟩, ⟨(some 6), (.mov (.tmp 1)), none⟩, ⟨(some 7), (.arith .rem (.tmp 5) (.tmp 6)), none⟩, ⟨(some 0), (.mov (.tmp 7)), none⟩]) (.seq (.seq (.ops [⟨(some 8), (.mov (.tmp 0)), none⟩, ⟨(some 9), (.cmp .lss (.tmp 8) (.const (.int .i64 0))), none⟩]) (.cond (.tmp 9) (.ops [⟨(some 10), (.mov (.tmp 0)), none⟩, ⟨(some 11), (.mov (.tmp 1)), none⟩, ⟨(some 12), (.arith .add (.tmp 10) (.tmp 11)), none⟩, ⟨(some 0), (.mov (.tmp 12)), none⟩]) .skip)) (.seq (.ops [⟨(some 13), (.mov (.tmp 0)), none⟩, ⟨(some 4), (.mov (.tmp 13)), none⟩]) .ret)))), 14, [(.tmp 4)]⟩
theorem c76 : compileFn Go.Proofs.Tryd.prog Go.Proofs.Tryd.f76 = some R76 := by kernel_rfl
theorem n76 : R76.ntmps = 14 := rfl
theorem a76 {args : List Value} {H : AHeap} {Q : Value → AHeap → Prop} (h : AWP Go.Proofs.Tryd.prog none R76.code (Fin R76 Q) (args ++ List.replicate (R76.ntmps - args.length) undef) H) : ACall Go.Proofs.Tryd.prog 76 args H Q := acall_intro mo Go.Proofs.Tryd.func76 c76 h

def R85 : RFunc :=
  ⟨(.seq (.ops [⟨(some 3), (.box (.tmp 0)), none⟩, ⟨(some 6), (.mov (.const (.int .i64 0))), none⟩]) (.seq (.ops [⟨(some 7), (.mov (.const (.int .i64 0))), none⟩]) (.seq (.seq (.ops [⟨(some 8), (.mov (.const (.int .i64 0))), none⟩]) (.block 0 (.loop (.seq (.seq (.ops [⟨(some 9), (.mov (.tmp 8)), none⟩, ⟨(some 10), (.fieldAddr 0 (.tmp 3)), none⟩, ⟨(some 11), (.load (.tmp 10)), none⟩, ⟨(some 12), (.len (.tmp 11)), none⟩, ⟨(some 13), (.cmp .lss (.tmp 9) (.tmp 12)), none⟩, ⟨(some 14), (.mov (.tmp 13)), none⟩, ⟨(some 15), (.mov (.tmp 8)), (some (14, true))⟩, ⟨(some 16), (.mov (.tmp 2)), (some (14, true))⟩, ⟨(some 17), (.cmp .leq (.tmp 15) (.tmp 16)), (some (14, true))⟩, ⟨(some 18), (.pick (.tmp 14) (.tmp 17) (.const (.bool false))), none⟩]) (.cond (.tmp 18) .skip (.exit 0))) (.seq (.block 1 (.draw [(⟨(some 21), (.mov (.tmp 7)), none⟩, false), (⟨(some 22), (.fieldAddr 0 (.tmp 3)), none⟩, false), (⟨(some 23), (.load (.tmp 22)), none⟩, false), (⟨(some 24), (.mov (.tmp 8)), none⟩, false), (⟨(some 25), (.idxAddr 1 (.tmp 23) (.tmp 24)), none⟩, false), (⟨(some 26), (.load (.tmp 25)), none⟩, false), (⟨(some 27), (.mov (.tmp 1)), none⟩, false), (⟨(some 28), (.mov (.tmp 2)), none⟩, false), (⟨(some 29), (.mov (.tmp 8)), none⟩, false), (⟨(some 30), (.arith .sub (.tmp 28) (.tmp 29)), none⟩, false), (⟨(some 31), (.idxAddr 1 (.tmp 27) (.tmp 30)), none⟩, false), (⟨(some 32), (.load (.tmp 31)), none⟩, false), (⟨(some 33), (.arith .mul (.tmp 26) (.tmp 32)), none⟩, false), (⟨(some 34), (.arith .add (.tmp 21) (.tmp 33)), none⟩, false), (⟨(some 7), (.mov (.tmp 34)), none⟩, false)])) (.ops [⟨(some 19), (.mov (.tmp 8)), none⟩, ⟨(some 20), (.arith .add (.tmp 19) (.const (.int .i64 1))), none⟩, ⟨(some 8), (.mov (.tmp 20)), none⟩])))))) (.seq (.ops [⟨(some 35), (.mov (.tmp 7)), none⟩, ⟨(some 6), (.mov (.tmp 35)), none⟩]) .ret)))), 36, [(.tmp 6)]⟩
theorem c85 : compileFn Go.Proofs.Tryd.prog Go.Proofs.Tryd.f85 = some R85 := by kernel_rfl
theorem n85 : R85.ntmps = 36 := rfl
theorem a85 {args : List Value} {H : AHeap} {Q : Value → AHeap → Prop} (h : AWP Go.Proofs.Tryd.prog none R85.code (Fin R85 Q) (args ++ List.replicate (R85.ntmps - args.length) undef) H) : ACall Go.Proofs.Tryd.prog 85 args H Q := acall_intro mo Go.Proofs.Tryd.func85 c85 h

def R86 : RFunc :=
  ⟨(.seq (.ops [⟨(some 0), (.mov (.const (.slice none 0 0))), none⟩]) (.seq (.ops [⟨(some 1), (.buildSlice 1 4 [(.int .i64 0), (.int .i64 0), (.int .i64 0), (.int .i64 0)] [(0, (1, (.const (.int .i64 0)))), (1, (1, (.const (.int .i64 10)))), (2, (1, (.const (.int .i64 20)))), (3, (1, (.const (.int .i64 40))))]), none⟩, ⟨(some 0), (.mov (.tmp 1)), none⟩]) .ret)), 2, [(.tmp 0)]⟩
theorem c86 : compileFn Go.Proofs.Tryd.prog Go.Proofs.Tryd.f86 = some R86 := by kernel_rfl
theorem n86 : R86.ntmps = 2 := rfl
theorem a86 {args : List Value} {H : AHeap} {Q : Value → AHeap → Prop} (h : AWP Go.Proofs.Tryd.prog none R86.code (Fin R86 Q) (args ++ List.replicate (R86.ntmps - args.length) undef) H) : ACall Go.Proofs.Tryd.prog 86 args H Q := acall_intro mo Go.Proofs.Tryd.func86 c86 h

def R87 : RFunc :=
  ⟨(.seq (.ops [⟨(some 0), (.new [(.slice none 0 0)]), none⟩]) (.seq (.ops [⟨(some 1), (.build [(.int .i64 0), (.int .i64 0)] []), none⟩, ⟨(some 2), (.build [(.int .i64 0), (.int .i64 0)] [(0, (1, (.const (.int .i64 2)))), (1, (1, (.const (.int .i64 20))))]), none⟩, ⟨(some 3), (.build [(.int .i64 0), (.int .i64 0)] [(0, (1, (.const (.int .i64 3)))), (1, (1, (.const (.int .i64 40))))]), none⟩, ⟨(some 4), (.buildSlice 2 3 [(.int .i64 0), (.int .i64 0), (.int .i64 0), (.int .i64 0), (.int .i64 0), (.int .i64 0)] [(0, (2, (.tmp 1))), (2, (2, (.tmp 2))), (4, (2, (.tmp 3)))]), none⟩, ⟨(some 5), (.build [(.slice none 0 0)] [(0, (1, (.tmp 4)))]), none⟩, ⟨none, (.store 1 (.tmp 0) (.tmp 5)), none⟩]) .ret)), 6, [(.loadN 1 0)]⟩
theorem c87 : compileFn Go.Proofs.Tryd.prog Go.Proofs.Tryd.f87 = some R87 := by kernel_rfl
theorem n87 : R87.ntmps = 6 := rfl
theorem a87 {args : List Value} {H : AHeap} {Q : Value → AHeap → Prop} (h : AWP Go.Proofs.Tryd.prog none R87.code (Fin R87 Q) (args ++ List.replicate (R87.ntmps - args.length) undef) H) : ACall Go.Proofs.Tryd.prog 87 args H Q := acall_intro mo Go.Proofs.Tryd.func87 c87 h

def R88 : RFunc :=
  ⟨(.seq (.ops [⟨(some 2), (.mov (.const (.int .i64 0))), none⟩]) (.seq (.seq (.ops [⟨(some 5), (.mov (.tmp 0)), none⟩, ⟨(some 6), (.len (.tmp 5)), none⟩, ⟨(some 7), (.mov (.const (.int .i64 0))), none⟩]) (.block 0 (.loop (.seq (.ops [⟨(some 8), (.cmp .lss (.tmp 7) (.tmp 6)), none⟩]) (.seq (.cond (.tmp 8) .skip (.exit 0)) (.seq (.block 1 (.seq (.ops [⟨(some 9), (.idxAddr 1 (.tmp 5) (.tmp 7)), none⟩, ⟨(some 10), (.load (.tmp 9)), none⟩, ⟨(some 4), (.mov (.tmp 10)), none⟩]) (.seq (.ops [⟨(some 11), (.mov (.tmp 4)), none⟩, ⟨(some 12), (.cmp .neq (.tmp 11) (.const (.int .i64 0))), none⟩]) (.cond (.tmp 12) (.seq (.ops [⟨(some 13), (.mov (.tmp 4)), none⟩, ⟨(some 2), (.mov (.tmp 13)), none⟩]) .ret) .skip)))) (.ops [⟨(some 14), (.arith .add (.tmp 7) (.const (.int .i64 1))), none⟩, ⟨(some 7), (.mov (.tmp 14)), none⟩]))))))) (.seq (.ops [⟨(some 2), (.mov (.const (.int .i64 0))), none⟩]) .ret))), 15, [(.tmp 2)]⟩
theorem c88 : compileFn Go.Proofs.Tryd.prog Go.Proofs.Tryd.f88 = some R88 := by kernel_rfl
theorem n88 : R88.ntmps = 15 := rfl
theorem a88 {args : List Value} {H : AHeap} {Q : Value → AHeap → Prop} (h : AWP Go.Proofs.Tryd.prog none R88.code (Fin R88 Q) (args ++ List.replicate (R88.ntmps - args.length) undef) H) : ACall Go.Proofs.Tryd.prog 88 args H Q := acall_intro mo Go.Proofs.Tryd.func88 c88 h

def R89 : RFunc :=
  ⟨(.seq (.ops [⟨(some 2), (.mov (.const (.int .i64 0))), none⟩]) (.seq (.ops [⟨(some 4), (.mov (.tmp 0)), none⟩, ⟨(some 5), (.call (.func 113) [(.tmp 4), (.func 131)]), none⟩, ⟨(some 3), (.mov (.tmp 5)), none⟩]) (.seq (.ops [⟨(some 6), (.mov (.tmp 0)), none⟩, ⟨(some 7), (.len (.tmp 6)), none⟩, ⟨(some 8), (.cmp .leq (.tmp 7) (.const (.int .i64 400))), none⟩, ⟨(some 9), (.call (.func 93) [(.tmp 8), (.const (.int .i64 8))]), none⟩, ⟨(some 10), (.mov (.tmp 3)), none⟩, ⟨(some 11), (.not (.tmp 10)), none⟩, ⟨(some 12), (.call (.func 93) [(.tmp 11), (.const (.int .i64 2))]), none⟩, ⟨(some 13), (.buildSlice 1 2 [(.int .i64 0), (.int .i64 0)] [(0, (1, (.tmp 9))), (1, (1, (.tmp 12)))]), none⟩, ⟨(some 14), (.call (.func 88) [(.tmp 13)]), none⟩, ⟨(some 2), (.mov (.tmp 14)), none⟩]) .ret))), 15, [(.tmp 2)]⟩
theorem c89 : compileFn Go.Proofs.Tryd.prog Go.Proofs.Tryd.f89 = some R89 := by kernel_rfl
theorem n89 : R89.ntmps = 15 := rfl
theorem a89 {args : List Value} {H : AHeap} {Q : Value → AHeap → Prop} (h : AWP Go.Proofs.Tryd.prog none R89.code (Fin R89 Q) (args ++ List.replicate (R89.ntmps - args.length) undef) H) : ACall Go.Proofs.Tryd.prog 89 args H Q := acall_intro mo Go.Proofs.Tryd.func89 c89 h

def R90 : RFunc :=
  ⟨(.seq (.ops [⟨(some 2), (.box (.tmp 0)), none⟩, ⟨(some 3), (.box (.tmp 1)), none⟩, ⟨(some 4), (.new [(.slice none 0 0)]), none⟩, ⟨(some 5), (.new [(.int .i64 0)]), none⟩]) (.seq (.ops [⟨(some 6), (.new [(.slice none 0 0)]), none⟩]) (.seq (.seq (.ops [⟨(some 8), (.loadN 6 (.tmp 2)), none⟩, ⟨(some 9), (.call (.func 132) [(.tmp 8)]), none⟩]) (.block 0 (.rangeFunc (.tmp 9) [10] (.ops [⟨(some 7), (.mov (.tmp 10)), none⟩]) (.block 1 (.seq (.seq (.ops [⟨(some 11), (.mov (.tmp 7)), none⟩, ⟨(some 12), (.load (.tmp 3)), none⟩, ⟨(some 13), (.arith .sub (.tmp 12) (.const (.int .i64 1))), none⟩, ⟨(some 14), (.arith .mul (.const (.int .i64 64)) (.tmp 13)), none⟩, ⟨(some 15), (.cmp .gtr (.tmp 11) (.tmp 14)), none⟩]) (.cond (.tmp 15) (.exit 0) .skip)) (.seq (.seq (.ops [⟨(some 16), (.load (.tmp 6)), none⟩, ⟨(some 17), (.len (.tmp 16)), none⟩, ⟨(some 18), (.cmp .eql (.tmp 17) (.const (.int .i64 2000))), none⟩]) (.cond (.tmp 18) (.seq (.ops [⟨none, (.store 1 (.tmp 4) (.const (.slice none 0 0))), none⟩, ⟨none, (.store 1 (.tmp 5) (.const (.int .i64 8))), none⟩]) .ret) .skip)) (.ops [⟨(some 19), (.load (.tmp 6)), none⟩, ⟨(some 20), (.mov (.tmp 7)), none⟩, ⟨(some 21), (.buildSlice 1 1 [(.int .i64 0)] [(0, (1, (.tmp 20)))]), none⟩, ⟨(some 22), (.append 1 8 (.tmp 19) (.tmp 21)), none⟩, ⟨none, (.store 1 (.tmp 6) (.tmp 22)), none⟩]))))))) (.seq (.ops [⟨(some 23), (.load (.tmp 6)), none⟩, ⟨none, (.store 1 (.tmp 4) (.tmp 23)), none⟩, ⟨none, (.store 1 (.tmp 5) (.const (.int .i64 0))), none⟩]) .ret)))), 24, [(.load 4), (.load 5)]⟩
theorem c90 : compileFn Go.Proofs.Tryd.prog Go.Proofs.Tryd.f90 = some R90 := by kernel_rfl
theorem n90 : R90.ntmps = 24 := rfl
theorem a90 {args : List Value} {H : AHeap} {Q : Value → AHeap → Prop} (h : AWP Go.Proofs.Tryd.prog none R90.code (Fin R90 Q) (args ++ List.replicate (R90.ntmps - args.length) undef) H) : ACall Go.Proofs.Tryd.prog 90 args H Q := acall_intro mo Go.Proofs.Tryd.func90 c90 h

def R91 : RFunc :=
  ⟨(.seq (.ops [⟨(some 4), (.mov (.const (.int .i64 0))), none⟩]) (.seq (.seq (.ops [⟨(some 5), (.mov (.tmp 0)), none⟩, ⟨(some 6), (.cmp .lss (.tmp 5) (.const (.int .i64 0))), none⟩]) (.cond (.tmp 6) (.seq (.ops [⟨(some 7), (.mov (.tmp 1)), none⟩, ⟨(some 8), (.arith .sub (.tmp 7) (.const (.int .i64 1))), none⟩, ⟨(some 9), (.mov (.tmp 0)), none⟩, ⟨(some 10), (.arith .sub (.tmp 8) (.tmp 9)), none⟩, ⟨(some 11), (.mov (.tmp 1)), none⟩, ⟨(some 12), (.arith .quo (.tmp 10) (.tmp 11)), none⟩, ⟨(some 13), (.neg (.tmp 12)), none⟩, ⟨(some 4), (.mov (.tmp 13)), none⟩]) .ret) .skip)) (.seq (.ops [⟨(some 14), (.mov (.tmp 0)), none⟩, ⟨(some 15), (.mov (.tmp 1)), none⟩, ⟨(some 16), (.arith .quo (.tmp 14) (.tmp 15)), none⟩, ⟨(some 4), (.mov (.tmp 16)), none⟩]) .ret))), 17, [(.tmp 4)]⟩
theorem c91 : compileFn Go.Proofs.Tryd.prog Go.Proofs.Tryd.f91 = some R91 := by kernel_rfl
theorem n91 : R91.ntmps = 17 := rfl
theorem a91 {args : List Value} {H : AHeap} {Q : Value → AHeap → Prop} (h : AWP Go.Proofs.Tryd.prog none R91.code (Fin R91 Q) (args ++ List.replicate (R91.ntmps - args.length) undef) H) : ACall Go.Proofs.Tryd.prog 91 args H Q := acall_intro mo Go.Proofs.Tryd.func91 c91 h

def R92 : RFunc :=
  ⟨(.seq (.ops [⟨(some 3), (.box (.tmp 0)), none⟩, ⟨(some 6), (.mov (.const (.int .i64 0))), none⟩]) (.seq (.ops [⟨(some 7), (.mov (.const (.int .i64 0))), none⟩]) (.seq (.seq (.ops [⟨(some 11), (.fieldAddr 2 (.tmp 3)), none⟩, ⟨(some 12), (.load (.tmp 11)), none⟩, ⟨(some 13), (.mov (.tmp 2)), none⟩, ⟨(some 14), (.arith .rem (.tmp 13) (.const (.int .i64 64))), none⟩, ⟨(some 15), (.call (.tmp 12) [(.tmp 14)]), none⟩, ⟨(some 16), (.len (.tmp 15)), none⟩, ⟨(some 17), (.mov (.const (.int .i64 0))), none⟩]) (.block 0 (.loop (.seq (.ops [⟨(some 18), (.cmp .lss (.tmp 17) (.tmp 16)), none⟩]) (.seq (.cond (.tmp 18) .skip (.exit 0)) (.seq (.block 1 (.seq (.ops [⟨(some 19), (.mov (.tmp 17)), none⟩, ⟨(some 20), (.idxAddr 1 (.tmp 15) (.tmp 17)), none⟩, ⟨(some 21), (.load (.tmp 20)), none⟩, ⟨(some 8), (.mov (.tmp 19)), none⟩, ⟨(some 9), (.mov (.tmp 21)), none⟩]) (.seq (.ops [⟨(some 22), (.mov (.tmp 2)), none⟩, ⟨(some 23), (.arith .quo (.tmp 22) (.const (.int .i64 64))), none⟩, ⟨(some 24), (.fieldAddr 0 (.tmp 3)), none⟩, ⟨(some 25), (.load (.tmp 24)), none⟩, ⟨(some 26), (.arith .add (.tmp 23) (.tmp 25)), none⟩, ⟨(some 27), (.mov (.tmp 8)), none⟩, ⟨(some 28), (.arith .add (.tmp 26) (.tmp 27)), none⟩, ⟨(some 10), (.mov (.tmp 28)), none⟩]) (.ops [⟨(some 29), (.mov (.tmp 7)), none⟩, ⟨(some 30), (.mov (.tmp 9)), none⟩, ⟨(some 31), (.mov (.tmp 1)), none⟩, ⟨(some 32), (.mov (.tmp 10)), none⟩, ⟨(some 33), (.most true (.tmp 32) [(.const (.int .i64 0))]), none⟩, ⟨(some 34), (.mov (.tmp 1)), none⟩, ⟨(some 35), (.len (.tmp 34)), none⟩, ⟨(some 36), (.arith .sub (.tmp 35) (.const (.int .i64 1))), none⟩, ⟨(some 37), (.most false (.tmp 33) [(.tmp 36)]), none⟩, ⟨(some 38), (.idxAddr 1 (.tmp 31) (.tmp 37)), none⟩, ⟨(some 39), (.load (.tmp 38)), none⟩, ⟨(some 40), (.arith .mul (.tmp 30) (.tmp 39)), none⟩, ⟨(some 41), (.arith .add (.tmp 29) (.tmp 40)), none⟩, ⟨(some 7), (.mov (.tmp 41)), none⟩])))) (.ops [⟨(some 42), (.arith .add (.tmp 17) (.const (.int .i64 1))), none⟩, ⟨(some 17), (.mov (.tmp 42)), none⟩]))))))) (.seq (.ops [⟨(some 43), (.mov (.tmp 7)), none⟩, ⟨(some 6), (.mov (.tmp 43)), none⟩]) .ret)))), 44, [(.tmp 6)]⟩
theorem c92 : compileFn Go.Proofs.Tryd.prog Go.Proofs.Tryd.f92 = some R92 := by kernel_rfl
theorem n92 : R92.ntmps = 44 := rfl
theorem a92 {args : List Value} {H : AHeap} {Q : Value → AHeap → Prop} (h : AWP Go.Proofs.Tryd.prog none R92.code (Fin R92 Q) (args ++ List.replicate (R92.ntmps - args.length) undef) H) : ACall Go.Proofs.Tryd.prog 92 args H Q := acall_intro mo Go.Proofs.Tryd.func92 c92 h

def R93 : RFunc :=
  ⟨(.seq (.ops [⟨(some 4), (.mov (.const (.int .i64 0))), none⟩]) (.seq (.seq (.ops [⟨(some 5), (.mov (.tmp 0)), none⟩]) (.cond (.tmp 5) (.seq (.ops [⟨(some 4), (.mov (.const (.int .i64 0))), none⟩]) .ret) .skip)) (.seq (.ops [⟨(some 6), (.mov (.tmp 1)), none⟩, ⟨(some 4), (.mov (.tmp 6)), none⟩]) .ret))), 7, [(.tmp 4)]⟩
theorem c93 : compileFn Go.Proofs.Tryd.prog Go.Proofs.Tryd.f93 = some R93 := by kernel_rfl
theorem n93 : R93.ntmps = 7 := rfl
theorem a93 {args : List Value} {H : AHeap} {Q : Value → AHeap → Prop} (h : AWP Go.Proofs.Tryd.prog none R93.code (Fin R93 Q) (args ++ List.replicate (R93.ntmps - args.length) undef) H) : ACall Go.Proofs.Tryd.prog 93 args H Q := acall_intro mo Go.Proofs.Tryd.func93 c93 h

def R94 : RFunc :=
  ⟨(.seq (.ops [⟨(some 6), (.mov (.const (.bool false))), none⟩]) (.seq (.ops [⟨(some 7), (.mov (.tmp 1)), none⟩, ⟨(some 8), (.mov (.tmp 0)), none⟩, ⟨(some 9), (.cmp .leq (.tmp 7) (.tmp 8)), none⟩, ⟨(some 10), (.mov (.tmp 9)), none⟩, ⟨(some 11), (.mov (.tmp 0)), (some (10, true))⟩, ⟨(some 12), (.mov (.tmp 2)), (some (10, true))⟩, ⟨(some 13), (.cmp .leq (.tmp 11) (.tmp 12)), (some (10, true))⟩, ⟨(some 14), (.pick (.tmp 10) (.tmp 13) (.const (.bool false))), none⟩, ⟨(some 6), (.mov (.tmp 14)), none⟩]) .ret)), 15, [(.tmp 6)]⟩
theorem c94 : compileFn Go.Proofs.Tryd.prog Go.Proofs.Tryd.f94 = some R94 := by kernel_rfl
theorem n94 : R94.ntmps = 15 := rfl
theorem a94 {args : List Value} {H : AHeap} {Q : Value → AHeap → Prop} (h : AWP Go.Proofs.Tryd.prog none R94.code (Fin R94 Q) (args ++ List.replicate (R94.ntmps - args.length) undef) H) : ACall Go.Proofs.Tryd.prog 94 args H Q := acall_intro mo Go.Proofs.Tryd.func94 c94 h

def R95 : RFunc :=
  ⟨(.seq (.ops [⟨(some 2), (.mov (.const (.int .i64 0))), none⟩]) (.seq (.ops [⟨(some 3), (.mov (.tmp 0)), none⟩, ⟨(some 4), (.cmp .eql (.tmp 3) (.const (.int .i64 1))), none⟩, ⟨(some 5), (.mov (.tmp 4)), none⟩, ⟨(some 6), (.mov (.tmp 0)), (some (5, false))⟩, ⟨(some 7), (.cmp .eql (.tmp 6) (.const (.int .i64 3))), (some (5, false))⟩, ⟨(some 8), (.pick (.tmp 5) (.const (.bool true)) (.tmp 7)), none⟩, ⟨(some 9), (.call (.func 93) [(.tmp 8), (.const (.int .i64 15))]), none⟩, ⟨(some 2), (.mov (.tmp 9)), none⟩]) .ret)), 10, [(.tmp 2)]⟩
theorem c95 : compileFn Go.Proofs.Tryd.prog Go.Proofs.Tryd.f95 = some R95 := by kernel_rfl
theorem n95 : R95.ntmps = 10 := rfl
theorem a95 {args : List Value} {H : AHeap} {Q : Value → AHeap → Prop} (h : AWP Go.Proofs.Tryd.prog none R95.code (Fin R95 Q) (args ++ List.replicate (R95.ntmps - args.length) undef) H) : ACall Go.Proofs.Tryd.prog 95 args H Q := acall_intro mo Go.Proofs.Tryd.func95 c95 h

def R96 : RFunc :=
  ⟨(.seq (.ops [⟨(some 2), (.mov (.const (.bool false))), none⟩]) (.seq (.ops [⟨(some 3), (.mov (.tmp 0)), none⟩, ⟨(some 4), (.call (.func 94) [(.tmp 3), (.const (.int .i64 1)), (.const (.int .i64 1000))]), none⟩, ⟨(some 2), (.mov (.tmp 4)), none⟩]) .ret)), 5, [(.tmp 2)]⟩
theorem c96 : compileFn Go.Proofs.Tryd.prog Go.Proofs.Tryd.f96 = some R96 := by kernel_rfl
theorem n96 : R96.ntmps = 5 := rfl
theorem a96 {args : List Value} {H : AHeap} {Q : Value → AHeap → Prop} (h : AWP Go.Proofs.Tryd.prog none R96.code (Fin R96 Q) (args ++ List.replicate (R96.ntmps - args.length) undef) H) : ACall Go.Proofs.Tryd.prog 96 args H Q := acall_intro mo Go.Proofs.Tryd.func96 c96 h

def R97 : RFunc :=
  ⟨(.seq (.ops [⟨(some 1), (.box (.tmp 0)), none⟩, ⟨(some 2), (.mov (.const (.int .i64 0))), none⟩, ⟨(some 3), (.mov (.const (.int .i64 0))), none⟩]) (.seq (.seq (.draw [(⟨(some 9), (.fieldAddr 0 (.tmp 1)), none⟩, false), (⟨(some 10), (.load (.tmp 9)), none⟩, false), (⟨(some 11), (.len (.tmp 10)), none⟩, false), (⟨(some 12), (.cmp .geq (.tmp 11) (.const (.int .i64 2))), none⟩, false), (⟨(some 13), (.call (.func 134) [(.tmp 12), (.const (.int .i64 10))]), none⟩, false), (⟨(some 14), (.fieldAddr 0 (.tmp 1)), none⟩, false), (⟨(some 15), (.load (.tmp 14)), none⟩, false), (⟨(some 16), (.len (.tmp 15)), none⟩, false), (⟨(some 17), (.cmp .leq (.tmp 16) (.const (.int .i64 20))), none⟩, false), (⟨(some 18), (.call (.func 134) [(.tmp 17), (.const (.int .i64 8))]), none⟩, false), (⟨(some 19), (.buildSlice 1 2 [(.int .i64 0), (.int .i64 0)] [(0, (1, (.tmp 13))), (1, (1, (.tmp 18)))]), none⟩, false), (⟨(some 20), (.call (.func 133) [(.tmp 19)]), none⟩, false), (⟨(some 4), (.mov (.tmp 20)), none⟩, false)]) (.seq (.ops [⟨(some 21), (.mov (.tmp 4)), none⟩, ⟨(some 22), (.cmp .neq (.tmp 21) (.const (.int .i64 0))), none⟩]) (.cond (.tmp 22) (.seq (.ops [⟨(some 23), (.mov (.tmp 4)), none⟩, ⟨(some 2), (.mov (.const (.int .i64 0))), none⟩, ⟨(some 3), (.mov (.tmp 23)), none⟩]) .ret) .skip))) (.seq (.ops [⟨(some 24), (.build [(.int .i64 0), (.int .i64 0)] [(0, (1, (.const (.int .i64 (-1))))), (1, (1, (.const (.int .i64 (-1)))))]), none⟩, ⟨(some 5), (.new [(.int .i64 0), (.int .i64 0)]), none⟩, ⟨none, (.store 2 (.tmp 5) (.tmp 24)), none⟩]) (.seq (.seq (.ops [⟨(some 25), (.fieldAddr 0 (.tmp 1)), none⟩, ⟨(some 26), (.load (.tmp 25)), none⟩, ⟨(some 27), (.len (.tmp 26)), none⟩, ⟨(some 28), (.mov (.const (.int .i64 0))), none⟩]) (.block 0 (.loop (.seq (.ops [⟨(some 29), (.cmp .lss (.tmp 28) (.tmp 27)), none⟩]) (.seq (.cond (.tmp 29) .skip (.exit 0)) (.seq (.block 1 (.seq (.ops [⟨(some 30), (.mov (.tmp 28)), none⟩, ⟨(some 31), (.idxAddr 2 (.tmp 26) (.tmp 28)), none⟩, ⟨(some 32), (.loadN 2 (.tmp 31)), none⟩, ⟨(some 7), (.new [(.int .i64 0), (.int .i64 0)]), none⟩, ⟨(some 6), (.mov (.tmp 30)), none⟩, ⟨none, (.store 2 (.tmp 7) (.tmp 32)), none⟩]) (.seq (.seq (.draw [(⟨(some 33), (.fieldAddr 0 (.tmp 7)), none⟩, false), (⟨(some 34), (.load (.tmp 33)), none⟩, false), (⟨(some 35), (.call (.func 135) [(.tmp 34)]), none⟩, false), (⟨(some 36), (.mov (.tmp 35)), none⟩, false), (⟨(some 37), (.fieldAddr 1 (.tmp 7)), (some (36, true))⟩, false), (⟨(some 38), (.load (.tmp 37)), (some (36, true))⟩, false), (⟨(some 39), (.call (.func 136) [(.tmp 38)]), (some (36, true))⟩, false), (⟨(some 40), (.pick (.tmp 36) (.tmp 39) (.const (.bool false))), none⟩, false), (⟨(some 41), (.call (.func 134) [(.tmp 40), (.const (.int .i64 2))]), none⟩, false), (⟨(some 42), (.fieldAddr 0 (.tmp 7)), none⟩, false), (⟨(some 43), (.load (.tmp 42)), none⟩, false), (⟨(some 44), (.fieldAddr 0 (.tmp 5)), none⟩, false), (⟨(some 45), (.load (.tmp 44)), none⟩, false), (⟨(some 46), (.cmp .gtr (.tmp 43) (.tmp 45)), none⟩, false), (⟨(some 47), (.mov (.tmp 46)), none⟩, false), (⟨(some 48), (.fieldAddr 1 (.tmp 7)), (some (47, true))⟩, false), (⟨(some 49), (.load (.tmp 48)), (some (47, true))⟩, false), (⟨(some 50), (.fieldAddr 1 (.tmp 5)), (some (47, true))⟩, false), (⟨(some 51), (.load (.tmp 50)), (some (47, true))⟩, false), (⟨(some 52), (.cmp .gtr (.tmp 49) (.tmp 51)), (some (47, true))⟩, false), (⟨(some 53), (.pick (.tmp 47) (.tmp 52) (.const (.bool false))), none⟩, false), (⟨(some 54), (.call (.func 134) [(.tmp 53), (.const (.int .i64 9))]), none⟩, false), (⟨(some 55), (.buildSlice 1 2 [(.int .i64 0), (.int .i64 0)] [(0, (1, (.tmp 41))), (1, (1, (.tmp 54)))]), none⟩, false), (⟨(some 56), (.call (.func 133) [(.tmp 55)]), none⟩, false), (⟨(some 8), (.mov (.tmp 56)), none⟩, false)]) (.seq (.ops [⟨(some 57), (.mov (.tmp 8)), none⟩, ⟨(some 58), (.cmp .neq (.tmp 57) (.const (.int .i64 0))), none⟩]) (.cond (.tmp 58) (.seq (.ops [⟨(some 59), (.mov (.tmp 6)), none⟩, ⟨(some 60), (.mov (.tmp 8)), none⟩, ⟨(some 2), (.mov (.tmp 59)), none⟩, ⟨(some 3), (.mov (.tmp 60)), none⟩]) .ret) .skip))) (.ops [⟨(some 61), (.loadN 2 (.tmp 7)), none⟩, ⟨none, (.store 2 (.tmp 5) (.tmp 61)), none⟩])))) (.ops [⟨(some 62), (.arith .add (.tmp 28) (.const (.int .i64 1))), none⟩, ⟨(some 28), (.mov (.tmp 62)), none⟩]))))))) (.seq (.ops [⟨(some 2), (.mov (.const (.int .i64 0))), none⟩, ⟨(some 3), (.mov (.const (.int .i64 0))), none⟩]) .ret))))), 63, [(.tmp 2), (.tmp 3)]⟩
theorem c97 : compileFn Go.Proofs.Tryd.prog Go.Proofs.Tryd.f97 = some R97 := by kernel_rfl
theorem n97 : R97.ntmps = 63 := rfl
theorem a97 {args : List Value} {H : AHeap} {Q : Value → AHeap → Prop} (h : AWP Go.Proofs.Tryd.prog none R97.code (Fin R97 Q) (args ++ List.replicate (R97.ntmps - args.length) undef) H) : ACall Go.Proofs.Tryd.prog 97 args H Q := acall_intro mo Go.Proofs.Tryd.func97 c97 h

def R100 : RFunc :=
  ⟨(.seq (.ops [⟨(some 2), (.mov (.const (.int .i64 0))), none⟩]) (.seq (.ops [⟨(some 3), (.mov (.tmp 0)), none⟩, ⟨(some 4), (.call (.func 94) [(.tmp 3), (.const (.int .i64 0)), (.const (.int .i64 32767))]), none⟩, ⟨(some 5), (.call (.func 93) [(.tmp 4), (.const (.int .i64 2))]), none⟩, ⟨(some 2), (.mov (.tmp 5)), none⟩]) .ret)), 6, [(.tmp 2)]⟩
theorem c100 : compileFn Go.Proofs.Tryd.prog Go.Proofs.Tryd.f100 = some R100 := by kernel_rfl
theorem n100 : R100.ntmps = 6 := rfl
theorem a100 {args : List Value} {H : AHeap} {Q : Value → AHeap → Prop} (h : AWP Go.Proofs.Tryd.prog none R100.code (Fin R100 Q) (args ++ List.replicate (R100.ntmps - args.length) undef) H) : ACall Go.Proofs.Tryd.prog 100 args H Q := acall_intro mo Go.Proofs.Tryd.func100 c100 h

def R101 : RFunc :=
  ⟨(.seq (.ops [⟨(some 1), (.box (.tmp 0)), none⟩, ⟨(some 2), (.mov (.const (.int .i64 0))), none⟩]) (.seq (.draw [(⟨(some 3), (.fieldAddr 0 (.tmp 1)), none⟩, false), (⟨(some 4), (.load (.tmp 3)), none⟩, false), (⟨(some 5), (.fieldAddr 0 (.tmp 1)), none⟩, false), (⟨(some 6), (.load (.tmp 5)), none⟩, false), (⟨(some 7), (.call (.func 129) [(.tmp 6)]), none⟩, false), (⟨(some 8), (.arith .mul (.tmp 4) (.tmp 7)), none⟩, false), (⟨(some 9), (.fieldAddr 1 (.tmp 1)), none⟩, false), (⟨(some 10), (.load (.tmp 9)), none⟩, false), (⟨(some 11), (.fieldAddr 1 (.tmp 1)), none⟩, false), (⟨(some 12), (.load (.tmp 11)), none⟩, false), (⟨(some 13), (.call (.func 129) [(.tmp 12)]), none⟩, false), (⟨(some 14), (.arith .mul (.tmp 10) (.tmp 13)), none⟩, false), (⟨(some 15), (.arith .add (.tmp 8) (.tmp 14)), none⟩, false), (⟨(some 2), (.mov (.tmp 15)), none⟩, false)]) .ret)), 16, [(.tmp 2)]⟩
theorem c101 : compileFn Go.Proofs.Tryd.prog Go.Proofs.Tryd.f101 = some R101 := by kernel_rfl
theorem n101 : R101.ntmps = 16 := rfl
theorem a101 {args : List Value} {H : AHeap} {Q : Value → AHeap → Prop} (h : AWP Go.Proofs.Tryd.prog none R101.code (Fin R101 Q) (args ++ List.replicate (R101.ntmps - args.length) undef) H) : ACall Go.Proofs.Tryd.prog 101 args H Q := acall_intro mo Go.Proofs.Tryd.func101 c101 h

def R102 : RFunc :=
  ⟨(.seq (.ops [⟨(some 3), (.box (.tmp 0)), none⟩, ⟨(some 6), (.mov (.const (.bool false))), none⟩]) (.seq (.draw [(⟨(some 7), (.mov (.tmp 1)), none⟩, false), (⟨(some 8), (.loadN 3 (.tmp 3)), none⟩, false), (⟨(some 9), (.call (.func 101) [(.tmp 8)]), none⟩, false), (⟨(some 10), (.neg (.tmp 9)), none⟩, false), (⟨(some 11), (.mov (.tmp 2)), none⟩, false), (⟨(some 12), (.arith .mul (.tmp 10) (.tmp 11)), none⟩, false), (⟨(some 13), (.fieldAddr 2 (.tmp 3)), none⟩, false), (⟨(some 14), (.load (.tmp 13)), none⟩, false), (⟨(some 15), (.call (.func 91) [(.tmp 12), (.tmp 14)]), none⟩, false), (⟨(some 16), (.arith .sub (.tmp 7) (.tmp 15)), none⟩, false), (⟨(some 17), (.mov (.tmp 2)), none⟩, false), (⟨(some 18), (.cmp .leq (.tmp 16) (.tmp 17)), none⟩, false), (⟨(some 6), (.mov (.tmp 18)), none⟩, false)]) .ret)), 19, [(.tmp 6)]⟩
theorem c102 : compileFn Go.Proofs.Tryd.prog Go.Proofs.Tryd.f102 = some R102 := by kernel_rfl
theorem n102 : R102.ntmps = 19 := rfl
theorem a102 {args : List Value} {H : AHeap} {Q : Value → AHeap → Prop} (h : AWP Go.Proofs.Tryd.prog none R102.code (Fin R102 Q) (args ++ List.replicate (R102.ntmps - args.length) undef) H) : ACall Go.Proofs.Tryd.prog 102 args H Q := acall_intro mo Go.Proofs.Tryd.func102 c102 h

def R106 : RFunc :=
  ⟨(.seq (.ops [⟨(some 2), (.mov (.const (.int .i64 0))), none⟩]) (.seq (.seq (.ops [⟨(some 7), (.mov (.tmp 0)), none⟩, ⟨(some 8), (.len (.tmp 7)), none⟩, ⟨(some 9), (.mov (.const (.int .i64 0))), none⟩]) (.block 0 (.loop (.seq (.ops [⟨(some 10), (.cmp .lss (.tmp 9) (.tmp 8)), none⟩]) (.seq (.cond (.tmp 10) .skip (.exit 0)) (.seq (.block 1 (.seq (.ops [⟨(some 11), (.idxAddr 1 (.tmp 7) (.tmp 9)), none⟩, ⟨(some 12), (.loadN 1 (.tmp 11)), none⟩, ⟨(some 4), (.new [(.slice none 0 0)]), none⟩, ⟨none, (.store 1 (.tmp 4) (.tmp 12)), none⟩]) (.seq (.ops [⟨(some 14), (.loadN 1 (.tmp 4)), none⟩, ⟨(some 15), (.call (.func 97) [(.tmp 14)]), none⟩, ⟨(some 13), (.mov (.tmp 15)), none⟩, ⟨(some 16), (.extract (.tmp 13) 0), none⟩, ⟨(some 17), (.extract (.tmp 13) 1), none⟩, ⟨(some 5), (.mov (.tmp 16)), none⟩, ⟨(some 6), (.mov (.tmp 17)), none⟩]) (.seq (.ops [⟨(some 18), (.mov (.tmp 6)), none⟩, ⟨(some 19), (.cmp .neq (.tmp 18) (.const (.int .i64 0))), none⟩]) (.cond (.tmp 19) (.seq (.ops [⟨(some 20), (.mov (.tmp 6)), none⟩, ⟨(some 2), (.mov (.tmp 20)), none⟩]) .ret) .skip))))) (.ops [⟨(some 21), (.arith .add (.tmp 9) (.const (.int .i64 1))), none⟩, ⟨(some 9), (.mov (.tmp 21)), none⟩]))))))) (.seq (.ops [⟨(some 2), (.mov (.const (.int .i64 0))), none⟩]) .ret))), 22, [(.tmp 2)]⟩
theorem c106 : compileFn Go.Proofs.Tryd.prog Go.Proofs.Tryd.f106 = some R106 := by kernel_rfl
theorem n106 : R106.ntmps = 22 := rfl
theorem a106 {args : List Value} {H : AHeap} {Q : Value → AHeap → Prop} (h : AWP Go.Proofs.Tryd.prog none R106.code (Fin R106 Q) (args ++ List.replicate (R106.ntmps - args.length) undef) H) : ACall Go.Proofs.Tryd.prog 106 args H Q := acall_intro mo Go.Proofs.Tryd.func106 c106 h

def R110 : RFunc :=
  ⟨(.seq (.ops [⟨(some 1), (.box (.tmp 0)), none⟩, ⟨(some 2), (.mov (.const (.int .i64 0))), none⟩]) (.seq (.ops [⟨(some 3), (.fieldAddr 2 (.tmp 1)), none⟩, ⟨(some 4), (.fieldAddr 0 (.tmp 3)), none⟩, ⟨(some 5), (.load (.tmp 4)), none⟩, ⟨(some 6), (.fieldAddr 0 (.tmp 1)), none⟩, ⟨(some 7), (.fieldAddr 0 (.tmp 6)), none⟩, ⟨(some 8), (.load (.tmp 7)), none⟩, ⟨(some 9), (.arith .sub (.tmp 5) (.tmp 8)), none⟩, ⟨(some 2), (.mov (.tmp 9)), none⟩]) .ret)), 10, [(.tmp 2)]⟩
theorem c110 : compileFn Go.Proofs.Tryd.prog Go.Proofs.Tryd.f110 = some R110 := by kernel_rfl
theorem n110 : R110.ntmps = 10 := rfl
theorem a110 {args : List Value} {H : AHeap} {Q : Value → AHeap → Prop} (h : AWP Go.Proofs.Tryd.prog none R110.code (Fin R110 Q) (args ++ List.replicate (R110.ntmps - args.length) undef) H) : ACall Go.Proofs.Tryd.prog 110 args H Q := acall_intro mo Go.Proofs.Tryd.func110 c110 h

def R113 : RFunc :=
  ⟨(.seq (.ops [⟨(some 4), (.mov (.const (.bool false))), none⟩]) (.seq (.ops [⟨(some 5), (.mov (.tmp 0)), none⟩, ⟨(some 6), (.mov (.tmp 1)), none⟩, ⟨(some 7), (.call (.func 143) [(.tmp 5), (.tmp 6)]), none⟩, ⟨(some 8), (.cmp .geq (.tmp 7) (.const (.int .i64 0))), none⟩, ⟨(some 4), (.mov (.tmp 8)), none⟩]) .ret)), 9, [(.tmp 4)]⟩
theorem c113 : compileFn Go.Proofs.Tryd.prog Go.Proofs.Tryd.f113 = some R113 := by kernel_rfl
theorem n113 : R113.ntmps = 9 := rfl
theorem a113 {args : List Value} {H : AHeap} {Q : Value → AHeap → Prop} (h : AWP Go.Proofs.Tryd.prog none R113.code (Fin R113 Q) (args ++ List.replicate (R113.ntmps - args.length) undef) H) : ACall Go.Proofs.Tryd.prog 113 args H Q := acall_intro mo Go.Proofs.Tryd.func113 c113 h

def R114 : RFunc :=
  ⟨(.seq (.ops [⟨(some 2), (.mov (.const (.bool false))), none⟩]) (.seq (.ops [⟨(some 3), (.mov (.tmp 0)), none⟩, ⟨(some 4), (.call (.func 115) [(.tmp 3)]), none⟩, ⟨(some 5), (.not (.tmp 4)), none⟩, ⟨(some 2), (.mov (.tmp 5)), none⟩]) .ret)), 6, [(.tmp 2)]⟩
theorem c114 : compileFn Go.Proofs.Tryd.prog Go.Proofs.Tryd.f114 = some R114 := by kernel_rfl
theorem n114 : R114.ntmps = 6 := rfl
theorem a114 {args : List Value} {H : AHeap} {Q : Value → AHeap → Prop} (h : AWP Go.Proofs.Tryd.prog none R114.code (Fin R114 Q) (args ++ List.replicate (R114.ntmps - args.length) undef) H) : ACall Go.Proofs.Tryd.prog 114 args H Q := acall_intro mo Go.Proofs.Tryd.func114 c114 h

def R115 : RFunc :=
  ⟨(.seq (.ops [⟨(some 2), (.mov (.const (.bool false))), none⟩]) (.seq (.ops [⟨(some 3), (.mov (.tmp 0)), none⟩, ⟨(some 4), (.call (.func 118) [(.tmp 3), (.const (.int .i64 1000))]), none⟩, ⟨(some 2), (.mov (.tmp 4)), none⟩]) .ret)), 5, [(.tmp 2)]⟩
theorem c115 : compileFn Go.Proofs.Tryd.prog Go.Proofs.Tryd.f115 = some R115 := by kernel_rfl
theorem n115 : R115.ntmps = 5 := rfl
theorem a115 {args : List Value} {H : AHeap} {Q : Value → AHeap → Prop} (h : AWP Go.Proofs.Tryd.prog none R115.code (Fin R115 Q) (args ++ List.replicate (R115.ntmps - args.length) undef) H) : ACall Go.Proofs.Tryd.prog 115 args H Q := acall_intro mo Go.Proofs.Tryd.func115 c115 h

def R116 : RFunc :=
  ⟨(.seq (.ops [⟨(some 2), (.mov (.const (.bool false))), none⟩]) (.seq (.ops [⟨(some 3), (.mov (.tmp 0)), none⟩, ⟨(some 4), (.call (.func 94) [(.tmp 3), (.const (.int .i64 1)), (.const (.int .i64 1000))]), none⟩, ⟨(some 2), (.mov (.tmp 4)), none⟩]) .ret)), 5, [(.tmp 2)]⟩
theorem c116 : compileFn Go.Proofs.Tryd.prog Go.Proofs.Tryd.f116 = some R116 := by kernel_rfl
theorem n116 : R116.ntmps = 5 := rfl
theorem a116 {args : List Value} {H : AHeap} {Q : Value → AHeap → Prop} (h : AWP Go.Proofs.Tryd.prog none R116.code (Fin R116 Q) (args ++ List.replicate (R116.ntmps - args.length) undef) H) : ACall Go.Proofs.Tryd.prog 116 args H Q := acall_intro mo Go.Proofs.Tryd.func116 c116 h

def R118 : RFunc :=
  ⟨(.seq (.ops [⟨(some 4), (.mov (.const (.bool false))), none⟩]) (.seq (.ops [⟨(some 5), (.mov (.tmp 0)), none⟩, ⟨(some 6), (.mov (.tmp 1)), none⟩, ⟨(some 7), (.neg (.tmp 6)), none⟩, ⟨(some 8), (.mov (.tmp 1)), none⟩, ⟨(some 9), (.call (.func 94) [(.tmp 5), (.tmp 7), (.tmp 8)]), none⟩, ⟨(some 4), (.mov (.tmp 9)), none⟩]) .ret)), 10, [(.tmp 4)]⟩
theorem c118 : compileFn Go.Proofs.Tryd.prog Go.Proofs.Tryd.f118 = some R118 := by kernel_rfl
theorem n118 : R118.ntmps = 10 := rfl
theorem a118 {args : List Value} {H : AHeap} {Q : Value → AHeap → Prop} (h : AWP Go.Proofs.Tryd.prog none R118.code (Fin R118 Q) (args ++ List.replicate (R118.ntmps - args.length) undef) H) : ACall Go.Proofs.Tryd.prog 118 args H Q := acall_intro mo Go.Proofs.Tryd.func118 c118 h

def R121 : RFunc :=
  ⟨(.seq (.ops [⟨(some 4), (.new [(.int .i64 0), (.int .i64 0)]), none⟩]) (.seq (.ops [⟨(some 6), (.mov (.tmp 0)), none⟩, ⟨(some 7), (.mov (.tmp 1)), none⟩, ⟨(some 8), (.call (.func 144) [(.tmp 6), (.tmp 7)]), none⟩, ⟨(some 5), (.mov (.tmp 8)), none⟩]) (.seq (.draw [(⟨(some 9), (.mov (.tmp 0)), none⟩, false), (⟨(some 10), (.mov (.tmp 5)), none⟩, false), (⟨(some 11), (.arith .quo (.tmp 9) (.tmp 10)), none⟩, false), (⟨(some 12), (.mov (.tmp 1)), none⟩, false), (⟨(some 13), (.mov (.tmp 5)), none⟩, false), (⟨(some 14), (.arith .quo (.tmp 12) (.tmp 13)), none⟩, false), (⟨(some 15), (.build [(.int .i64 0), (.int .i64 0)] [(0, (1, (.tmp 11))), (1, (1, (.tmp 14)))]), none⟩, false), (⟨none, (.store 2 (.tmp 4) (.tmp 15)), none⟩, false)]) .ret))), 16, [(.loadN 2 4)]⟩
theorem c121 : compileFn Go.Proofs.Tryd.prog Go.Proofs.Tryd.f121 = some R121 := by kernel_rfl
theorem n121 : R121.ntmps = 16 := rfl
theorem a121 {args : List Value} {H : AHeap} {Q : Value → AHeap → Prop} (h : AWP Go.Proofs.Tryd.prog none R121.code (Fin R121 Q) (args ++ List.replicate (R121.ntmps - args.length) undef) H) : ACall Go.Proofs.Tryd.prog 121 args H Q := acall_intro mo Go.Proofs.Tryd.func121 c121 h

def R129 : RFunc :=
  ⟨(.seq (.ops [⟨(some 2), (.mov (.const (.int .i64 0))), none⟩]) (.seq (.block 0 (.seq (.ops [⟨(some 4), (.mov (.tmp 0)), none⟩, ⟨(some 5), (.cmp .lss (.tmp 4) (.const (.int .i64 0))), none⟩, ⟨(some 3), (.mov (.tmp 5)), none⟩]) (.cond (.tmp 3) (.seq (.ops [⟨(some 2), (.mov (.const (.int .i64 (-1)))), none⟩]) .ret) (.seq (.ops [⟨(some 7), (.mov (.tmp 0)), none⟩, ⟨(some 8), (.cmp .gtr (.tmp 7) (.const (.int .i64 0))), none⟩, ⟨(some 6), (.mov (.tmp 8)), none⟩]) (.cond (.tmp 6) (.seq (.ops [⟨(some 2), (.mov (.const (.int .i64 1))), none⟩]) .ret) .skip))))) (.seq (.ops [⟨(some 2), (.mov (.const (.int .i64 0))), none⟩]) .ret))), 9, [(.tmp 2)]⟩
theorem c129 : compileFn Go.Proofs.Tryd.prog Go.Proofs.Tryd.f129 = some R129 := by kernel_rfl
theorem n129 : R129.ntmps = 9 := rfl
theorem a129 {args : List Value} {H : AHeap} {Q : Value → AHeap → Prop} (h : AWP Go.Proofs.Tryd.prog none R129.code (Fin R129 Q) (args ++ List.replicate (R129.ntmps - args.length) undef) H) : ACall Go.Proofs.Tryd.prog 129 args H Q := acall_intro mo Go.Proofs.Tryd.func129 c129 h

def R131 : RFunc :=
  ⟨(.seq (.ops [⟨(some 2), (.mov (.const (.bool false))), none⟩]) (.seq (.ops [⟨(some 3), (.mov (.tmp 0)), none⟩, ⟨(some 4), (.call (.func 118) [(.tmp 3), (.const (.int .i64 32767))]), none⟩, ⟨(some 5), (.not (.tmp 4)), none⟩, ⟨(some 2), (.mov (.tmp 5)), none⟩]) .ret)), 6, [(.tmp 2)]⟩
theorem c131 : compileFn Go.Proofs.Tryd.prog Go.Proofs.Tryd.f131 = some R131 := by kernel_rfl
theorem n131 : R131.ntmps = 6 := rfl
theorem a131 {args : List Value} {H : AHeap} {Q : Value → AHeap → Prop} (h : AWP Go.Proofs.Tryd.prog none R131.code (Fin R131 Q) (args ++ List.replicate (R131.ntmps - args.length) undef) H) : ACall Go.Proofs.Tryd.prog 131 args H Q := acall_intro mo Go.Proofs.Tryd.func131 c131 h

def R132 : RFunc :=
  ⟨(.seq (.ops [⟨(some 1), (.box (.tmp 0)), none⟩, ⟨(some 2), (.mov (.const .nilFunc)), none⟩]) (.seq (.seq (.ops [⟨(some 4), (.fieldAddr 0 (.tmp 1)), none⟩, ⟨(some 5), (.load (.tmp 4)), none⟩, ⟨(some 6), (.cmp .eql (.tmp 5) (.const (.int .i64 0))), none⟩]) (.cond (.tmp 6) (.seq (.ops [⟨(some 7), (.mkFunc (.func 146) [] [(.tmp 1)]), none⟩, ⟨(some 2), (.mov (.tmp 7)), none⟩]) .ret) .skip)) (.seq (.ops [⟨(some 8), (.fieldAddr 5 (.tmp 1)), none⟩, ⟨(some 9), (.fieldAddr 0 (.tmp 8)), none⟩, ⟨(some 10), (.load (.tmp 9)), none⟩, ⟨(some 3), (.new [(.slice none 0 0)]), none⟩, ⟨none, (.store 1 (.tmp 3) (.tmp 10)), none⟩]) (.seq (.ops [⟨(some 11), (.mkFunc (.func 147) [] [(.tmp 3), (.tmp 1)]), none⟩, ⟨(some 2), (.mov (.tmp 11)), none⟩]) .ret)))), 12, [(.tmp 2)]⟩
theorem c132 : compileFn Go.Proofs.Tryd.prog Go.Proofs.Tryd.f132 = some R132 := by kernel_rfl
theorem n132 : R132.ntmps = 12 := rfl
theorem a132 {args : List Value} {H : AHeap} {Q : Value → AHeap → Prop} (h : AWP Go.Proofs.Tryd.prog none R132.code (Fin R132 Q) (args ++ List.replicate (R132.ntmps - args.length) undef) H) : ACall Go.Proofs.Tryd.prog 132 args H Q := acall_intro mo Go.Proofs.Tryd.func132 c132 h

def R133 : RFunc :=
  ⟨(.seq (.ops [⟨(some 2), (.mov (.const (.int .i64 0))), none⟩]) (.seq (.seq (.ops [⟨(some 5), (.mov (.tmp 0)), none⟩, ⟨(some 6), (.len (.tmp 5)), none⟩, ⟨(some 7), (.mov (.const (.int .i64 0))), none⟩]) (.block 0 (.loop (.seq (.ops [⟨(some 8), (.cmp .lss (.tmp 7) (.tmp 6)), none⟩]) (.seq (.cond (.tmp 8) .skip (.exit 0)) (.seq (.block 1 (.seq (.ops [⟨(some 9), (.idxAddr 1 (.tmp 5) (.tmp 7)), none⟩, ⟨(some 10), (.load (.tmp 9)), none⟩, ⟨(some 4), (.mov (.tmp 10)), none⟩]) (.seq (.ops [⟨(some 11), (.mov (.tmp 4)), none⟩, ⟨(some 12), (.cmp .neq (.tmp 11) (.const (.int .i64 0))), none⟩]) (.cond (.tmp 12) (.seq (.ops [⟨(some 13), (.mov (.tmp 4)), none⟩, ⟨(some 2), (.mov (.tmp 13)), none⟩]) .ret) .skip)))) (.ops [⟨(some 14), (.arith .add (.tmp 7) (.const (.int .i64 1))), none⟩, ⟨(some 7), (.mov (.tmp 14)), none⟩]))))))) (.seq (.ops [⟨(some 2), (.mov (.const (.int .i64 0))), none⟩]) .ret))), 15, [(.tmp 2)]⟩
theorem c133 : compileFn Go.Proofs.Tryd.prog Go.Proofs.Tryd.f133 = some R133 := by kernel_rfl
theorem n133 : R133.ntmps = 15 := rfl
theorem a133 {args : List Value} {H : AHeap} {Q : Value → AHeap → Prop} (h : AWP Go.Proofs.Tryd.prog none R133.code (Fin R133 Q) (args ++ List.replicate (R133.ntmps - args.length) undef) H) : ACall Go.Proofs.Tryd.prog 133 args H Q := acall_intro mo Go.Proofs.Tryd.func133 c133 h

def R134 : RFunc :=
  ⟨(.seq (.ops [⟨(some 4), (.mov (.const (.int .i64 0))), none⟩]) (.seq (.seq (.ops [⟨(some 5), (.mov (.tmp 0)), none⟩]) (.cond (.tmp 5) (.seq (.ops [⟨(some 4), (.mov (.const (.int .i64 0))), none⟩]) .ret) .skip)) (.seq (.ops [⟨(some 6), (.mov (.tmp 1)), none⟩, ⟨(some 4), (.mov (.tmp 6)), none⟩]) .ret))), 7, [(.tmp 4)]⟩
theorem c134 : compileFn Go.Proofs.Tryd.prog Go.Proofs.Tryd.f134 = some R134 := by kernel_rfl
theorem n134 : R134.ntmps = 7 := rfl
theorem a134 {args : List Value} {H : AHeap} {Q : Value → AHeap → Prop} (h : AWP Go.Proofs.Tryd.prog none R134.code (Fin R134 Q) (args ++ List.replicate (R134.ntmps - args.length) undef) H) : ACall Go.Proofs.Tryd.prog 134 args H Q := acall_intro mo Go.Proofs.Tryd.func134 c134 h

def R135 : RFunc :=
  ⟨(.seq (.ops [⟨(some 2), (.mov (.const (.bool false))), none⟩]) (.seq (.ops [⟨(some 3), (.mov (.tmp 0)), none⟩, ⟨(some 4), (.call (.func 141) [(.tmp 3), (.const (.int .i64 0)), (.const (.int .i64 1000000))]), none⟩, ⟨(some 2), (.mov (.tmp 4)), none⟩]) .ret)), 5, [(.tmp 2)]⟩
theorem c135 : compileFn Go.Proofs.Tryd.prog Go.Proofs.Tryd.f135 = some R135 := by kernel_rfl
theorem n135 : R135.ntmps = 5 := rfl
theorem a135 {args : List Value} {H : AHeap} {Q : Value → AHeap → Prop} (h : AWP Go.Proofs.Tryd.prog none R135.code (Fin R135 Q) (args ++ List.replicate (R135.ntmps - args.length) undef) H) : ACall Go.Proofs.Tryd.prog 135 args H Q := acall_intro mo Go.Proofs.Tryd.func135 c135 h

def R136 : RFunc :=
  ⟨(.seq (.ops [⟨(some 2), (.mov (.const (.bool false))), none⟩]) (.seq (.ops [⟨(some 3), (.mov (.tmp 0)), none⟩, ⟨(some 4), (.call (.func 141) [(.tmp 3), (.const (.int .i64 0)), (.const (.int .i64 1000000000000))]), none⟩, ⟨(some 2), (.mov (.tmp 4)), none⟩]) .ret)), 5, [(.tmp 2)]⟩
theorem c136 : compileFn Go.Proofs.Tryd.prog Go.Proofs.Tryd.f136 = some R136 := by kernel_rfl
theorem n136 : R136.ntmps = 5 := rfl
theorem a136 {args : List Value} {H : AHeap} {Q : Value → AHeap → Prop} (h : AWP Go.Proofs.Tryd.prog none R136.code (Fin R136 Q) (args ++ List.replicate (R136.ntmps - args.length) undef) H) : ACall Go.Proofs.Tryd.prog 136 args H Q := acall_intro mo Go.Proofs.Tryd.func136 c136 h

def R139 : RFunc :=
  ⟨(.seq (.ops [⟨(some 2), (.box (.tmp 0)), none⟩, ⟨(some 3), (.box (.tmp 1)), none⟩, ⟨(some 4), (.new [(.int .i64 0), (.int .i64 0), (.int .i64 0), (.int .i64 0)]), none⟩, ⟨(some 5), (.new [(.bool false)]), none⟩]) (.seq (.seq (.ops [⟨(some 8), (.loadN 1 (.tmp 2)), none⟩, ⟨(some 9), (.call (.func 149) [(.tmp 8)]), none⟩]) (.block 0 (.rangeFunc (.tmp 9) [10, 11] (.ops [⟨(some 7), (.new [(.int .i64 0), (.int .i64 0), (.int .i64 0), (.int .i64 0)]), none⟩, ⟨none, (.store 4 (.tmp 7) (.tmp 11)), none⟩]) (.block 1 (.seq (.ops [⟨(some 12), (.load (.tmp 3)), none⟩, ⟨(some 13), (.loadN 4 (.tmp 7)), none⟩, ⟨(some 14), (.call (.tmp 12) [(.tmp 13)]), none⟩]) (.cond (.tmp 14) (.seq (.ops [⟨(some 15), (.loadN 4 (.tmp 7)), none⟩, ⟨none, (.store 4 (.tmp 4) (.tmp 15)), none⟩, ⟨none, (.store 1 (.tmp 5) (.const (.bool true))), none⟩]) .ret) .skip)))))) (.seq (.ops [⟨(some 16), (.build [(.int .i64 0), (.int .i64 0), (.int .i64 0), (.int .i64 0)] []), none⟩, ⟨none, (.store 4 (.tmp 4) (.tmp 16)), none⟩, ⟨none, (.store 1 (.tmp 5) (.const (.bool false))), none⟩]) .ret))), 17, [(.loadN 4 4), (.load 5)]⟩
theorem c139 : compileFn Go.Proofs.Tryd.prog Go.Proofs.Tryd.f139 = some R139 := by kernel_rfl
theorem n139 : R139.ntmps = 17 := rfl
theorem a139 {args : List Value} {H : AHeap} {Q : Value → AHeap → Prop} (h : AWP Go.Proofs.Tryd.prog none R139.code (Fin R139 Q) (args ++ List.replicate (R139.ntmps - args.length) undef) H) : ACall Go.Proofs.Tryd.prog 139 args H Q := acall_intro mo Go.Proofs.Tryd.func139 c139 h

def R141 : RFunc :=
  ⟨(.seq (.ops [⟨(some 6), (.mov (.const (.bool false))), none⟩]) (.seq (.ops [⟨(some 7), (.mov (.tmp 1)), none⟩, ⟨(some 8), (.mov (.tmp 0)), none⟩, ⟨(some 9), (.cmp .leq (.tmp 7) (.tmp 8)), none⟩, ⟨(some 10), (.mov (.tmp 9)), none⟩, ⟨(some 11), (.mov (.tmp 0)), (some (10, true))⟩, ⟨(some 12), (.mov (.tmp 2)), (some (10, true))⟩, ⟨(some 13), (.cmp .leq (.tmp 11) (.tmp 12)), (some (10, true))⟩, ⟨(some 14), (.pick (.tmp 10) (.tmp 13) (.const (.bool false))), none⟩, ⟨(some 6), (.mov (.tmp 14)), none⟩]) .ret)), 15, [(.tmp 6)]⟩
theorem c141 : compileFn Go.Proofs.Tryd.prog Go.Proofs.Tryd.f141 = some R141 := by kernel_rfl
theorem n141 : R141.ntmps = 15 := rfl
theorem a141 {args : List Value} {H : AHeap} {Q : Value → AHeap → Prop} (h : AWP Go.Proofs.Tryd.prog none R141.code (Fin R141 Q) (args ++ List.replicate (R141.ntmps - args.length) undef) H) : ACall Go.Proofs.Tryd.prog 141 args H Q := acall_intro mo Go.Proofs.Tryd.func141 c141 h

def R142 : RFunc :=
  ⟨(.seq (.ops [⟨(some 1), (.box (.tmp 0)), none⟩, ⟨(some 2), (.mov (.const (.int .i64 0))), none⟩]) (.seq (.ops [⟨(some 3), (.fieldAddr 2 (.tmp 1)), none⟩, ⟨(some 4), (.fieldAddr 1 (.tmp 3)), none⟩, ⟨(some 5), (.load (.tmp 4)), none⟩, ⟨(some 6), (.fieldAddr 0 (.tmp 1)), none⟩, ⟨(some 7), (.fieldAddr 1 (.tmp 6)), none⟩, ⟨(some 8), (.load (.tmp 7)), none⟩, ⟨(some 9), (.arith .sub (.tmp 5) (.tmp 8)), none⟩, ⟨(some 2), (.mov (.tmp 9)), none⟩]) .ret)), 10, [(.tmp 2)]⟩
theorem c142 : compileFn Go.Proofs.Tryd.prog Go.Proofs.Tryd.f142 = some R142 := by kernel_rfl
theorem n142 : R142.ntmps = 10 := rfl
theorem a142 {args : List Value} {H : AHeap} {Q : Value → AHeap → Prop} (h : AWP Go.Proofs.Tryd.prog none R142.code (Fin R142 Q) (args ++ List.replicate (R142.ntmps - args.length) undef) H) : ACall Go.Proofs.Tryd.prog 142 args H Q := acall_intro mo Go.Proofs.Tryd.func142 c142 h

def R143 : RFunc :=
  ⟨(.seq (.ops [⟨(some 4), (.mov (.const (.int .i64 0))), none⟩]) (.seq (.seq (.ops [⟨(some 6), (.mov (.tmp 0)), none⟩, ⟨(some 7), (.len (.tmp 6)), none⟩, ⟨(some 8), (.mov (.const (.int .i64 0))), none⟩]) (.block 0 (.loop (.seq (.ops [⟨(some 9), (.cmp .lss (.tmp 8) (.tmp 7)), none⟩]) (.seq (.cond (.tmp 9) .skip (.exit 0)) (.seq (.block 1 (.seq (.ops [⟨(some 10), (.mov (.tmp 8)), none⟩, ⟨(some 5), (.mov (.tmp 10)), none⟩]) (.seq (.ops [⟨(some 11), (.mov (.tmp 1)), none⟩, ⟨(some 12), (.mov (.tmp 0)), none⟩, ⟨(some 13), (.mov (.tmp 5)), none⟩, ⟨(some 14), (.idxAddr 1 (.tmp 12) (.tmp 13)), none⟩, ⟨(some 15), (.load (.tmp 14)), none⟩, ⟨(some 16), (.call (.tmp 11) [(.tmp 15)]), none⟩]) (.cond (.tmp 16) (.seq (.ops [⟨(some 17), (.mov (.tmp 5)), none⟩, ⟨(some 4), (.mov (.tmp 17)), none⟩]) .ret) .skip)))) (.ops [⟨(some 18), (.arith .add (.tmp 8) (.const (.int .i64 1))), none⟩, ⟨(some 8), (.mov (.tmp 18)), none⟩]))))))) (.seq (.ops [⟨(some 4), (.mov (.const (.int .i64 (-1)))), none⟩]) .ret))), 19, [(.tmp 4)]⟩
theorem c143 : compileFn Go.Proofs.Tryd.prog Go.Proofs.Tryd.f143 = some R143 := by kernel_rfl
theorem n143 : R143.ntmps = 19 := rfl
theorem a143 {args : List Value} {H : AHeap} {Q : Value → AHeap → Prop} (h : AWP Go.Proofs.Tryd.prog none R143.code (Fin R143 Q) (args ++ List.replicate (R143.ntmps - args.length) undef) H) : ACall Go.Proofs.Tryd.prog 143 args H Q := acall_intro mo Go.Proofs.Tryd.func143 c143 h

def R144 : RFunc :=
  ⟨(.seq (.ops [⟨(some 4), (.mov (.const (.int .i64 0))), none⟩]) (.seq (.block 0 (.loop (.seq (.seq (.ops [⟨(some 5), (.mov (.tmp 1)), none⟩, ⟨(some 6), (.cmp .neq (.tmp 5) (.const (.int .i64 0))), none⟩]) (.cond (.tmp 6) .skip (.exit 0))) (.block 1 (.draw [(⟨(some 7), (.mov (.tmp 1)), none⟩, false), (⟨(some 8), (.mov (.tmp 0)), none⟩, false), (⟨(some 9), (.mov (.tmp 1)), none⟩, false), (⟨(some 10), (.arith .rem (.tmp 8) (.tmp 9)), none⟩, false), (⟨(some 0), (.mov (.tmp 7)), none⟩, false), (⟨(some 1), (.mov (.tmp 10)), none⟩, false)]))))) (.seq (.ops [⟨(some 11), (.mov (.tmp 0)), none⟩, ⟨(some 12), (.mov (.tmp 0)), none⟩, ⟨(some 13), (.neg (.tmp 12)), none⟩, ⟨(some 14), (.most true (.tmp 11) [(.tmp 13)]), none⟩, ⟨(some 4), (.mov (.tmp 14)), none⟩]) .ret))), 15, [(.tmp 4)]⟩
theorem c144 : compileFn Go.Proofs.Tryd.prog Go.Proofs.Tryd.f144 = some R144 := by kernel_rfl
theorem n144 : R144.ntmps = 15 := rfl
theorem a144 {args : List Value} {H : AHeap} {Q : Value → AHeap → Prop} (h : AWP Go.Proofs.Tryd.prog none R144.code (Fin R144 Q) (args ++ List.replicate (R144.ntmps - args.length) undef) H) : ACall Go.Proofs.Tryd.prog 144 args H Q := acall_intro mo Go.Proofs.Tryd.func144 c144 h

def R146 : RFunc :=
  ⟨(.seq (.ops [⟨(some 3), (.mov (.const (.int .i64 0))), none⟩]) (.block 0 (.loop (.seq (.seq (.ops [⟨(some 4), (.mov (.tmp 0)), none⟩, ⟨(some 5), (.mov (.tmp 3)), none⟩, ⟨(some 6), (.arith .mul (.const (.int .i64 64)) (.tmp 5)), none⟩, ⟨(some 7), (.fieldAddr 2 (.tmp 1)), none⟩, ⟨(some 8), (.load (.tmp 7)), none⟩, ⟨(some 9), (.arith .mul (.tmp 6) (.tmp 8)), none⟩, ⟨(some 10), (.fieldAddr 3 (.tmp 1)), none⟩, ⟨(some 11), (.load (.tmp 10)), none⟩, ⟨(some 12), (.arith .quo (.tmp 9) (.tmp 11)), none⟩, ⟨(some 13), (.call (.tmp 4) [(.tmp 12)]), none⟩]) (.cond (.tmp 13) .skip (.exit 0))) (.seq (.block 1 .skip) (.ops [⟨(some 14), (.mov (.tmp 3)), none⟩, ⟨(some 15), (.arith .add (.tmp 14) (.const (.int .i64 1))), none⟩, ⟨(some 3), (.mov (.tmp 15)), none⟩])))))), 16, []⟩
theorem c146 : compileFn Go.Proofs.Tryd.prog Go.Proofs.Tryd.f146 = some R146 := by kernel_rfl
theorem n146 : R146.ntmps = 16 := rfl
theorem a146 {args : List Value} {H : AHeap} {Q : Value → AHeap → Prop} (h : AWP Go.Proofs.Tryd.prog none R146.code (Fin R146 Q) (args ++ List.replicate (R146.ntmps - args.length) undef) H) : ACall Go.Proofs.Tryd.prog 146 args H Q := acall_intro mo Go.Proofs.Tryd.func146 c146 h

def R147 : RFunc :=
  ⟨(.seq (.ops [⟨(some 7), (.load (.tmp 1)), none⟩, ⟨(some 8), (.idxAddr 2 (.tmp 7) (.const (.int .i64 0))), none⟩, ⟨(some 9), (.fieldAddr 1 (.tmp 8)), none⟩, ⟨(some 10), (.load (.tmp 9)), none⟩, ⟨(some 4), (.mov (.tmp 10)), none⟩]) (.block 0 (.loop (.seq (.seq (.ops [⟨(some 11), (.mov (.tmp 4)), none⟩, ⟨(some 12), (.load (.tmp 1)), none⟩, ⟨(some 13), (.load (.tmp 1)), none⟩, ⟨(some 14), (.len (.tmp 13)), none⟩, ⟨(some 15), (.arith .sub (.tmp 14) (.const (.int .i64 1))), none⟩, ⟨(some 16), (.idxAddr 2 (.tmp 12) (.tmp 15)), none⟩, ⟨(some 17), (.fieldAddr 1 (.tmp 16)), none⟩, ⟨(some 18), (.load (.tmp 17)), none⟩, ⟨(some 19), (.cmp .leq (.tmp 11) (.tmp 18)), none⟩]) (.cond (.tmp 19) .skip (.exit 0))) (.seq (.block 1 (.seq (.ops [⟨(some 25), (.fieldAddr 5 (.tmp 2)), none⟩, ⟨(some 26), (.loadN 1 (.tmp 25)), none⟩, ⟨(some 27), (.mov (.tmp 4)), none⟩, ⟨(some 28), (.call (.func 148) [(.tmp 26), (.tmp 27)]), none⟩, ⟨(some 24), (.mov (.tmp 28)), none⟩, ⟨(some 29), (.extract (.tmp 24) 0), none⟩, ⟨(some 30), (.extract (.tmp 24) 1), none⟩, ⟨(some 5), (.new [(.int .i64 0), (.int .i64 0)]), none⟩, ⟨none, (.store 2 (.tmp 5) (.tmp 29)), none⟩, ⟨(some 6), (.mov (.tmp 30)), none⟩]) (.seq (.ops [⟨(some 31), (.mov (.tmp 6)), none⟩, ⟨(some 32), (.cmp .neq (.tmp 31) (.const (.int .i64 0))), none⟩, ⟨(some 33), (.mov (.tmp 32)), none⟩, ⟨(some 34), (.mov (.tmp 0)), (some (33, false))⟩, ⟨(some 35), (.fieldAddr 0 (.tmp 5)), (some (33, false))⟩, ⟨(some 36), (.load (.tmp 35)), (some (33, false))⟩, ⟨(some 37), (.call (.tmp 34) [(.tmp 36)]), (some (33, false))⟩, ⟨(some 38), (.not (.tmp 37)), (some (33, false))⟩, ⟨(some 39), (.pick (.tmp 33) (.const (.bool true)) (.tmp 38)), none⟩]) (.cond (.tmp 39) .ret .skip)))) (.ops [⟨(some 20), (.mov (.tmp 4)), none⟩, ⟨(some 21), (.fieldAddr 4 (.tmp 2)), none⟩, ⟨(some 22), (.load (.tmp 21)), none⟩, ⟨(some 23), (.arith .add (.tmp 20) (.tmp 22)), none⟩, ⟨(some 4), (.mov (.tmp 23)), none⟩])))))), 40, []⟩
theorem c147 : compileFn Go.Proofs.Tryd.prog Go.Proofs.Tryd.f147 = some R147 := by kernel_rfl
theorem n147 : R147.ntmps = 40 := rfl
theorem a147 {args : List Value} {H : AHeap} {Q : Value → AHeap → Prop} (h : AWP Go.Proofs.Tryd.prog none R147.code (Fin R147 Q) (args ++ List.replicate (R147.ntmps - args.length) undef) H) : ACall Go.Proofs.Tryd.prog 147 args H Q := acall_intro mo Go.Proofs.Tryd.func147 c147 h

def R148 : RFunc :=
  ⟨(.seq (.ops [⟨(some 2), (.box (.tmp 0)), none⟩, ⟨(some 3), (.box (.tmp 1)), none⟩, ⟨(some 4), (.new [(.int .i64 0), (.int .i64 0)]), none⟩, ⟨(some 5), (.mov (.const (.int .i64 0))), none⟩]) (.seq (.seq (.ops [⟨(some 14), (.loadN 1 (.tmp 2)), none⟩, ⟨(some 15), (.buildSlice 1 1 [(.slice none 0 0)] [(0, (1, (.tmp 14)))]), none⟩, ⟨(some 16), (.call (.func 106) [(.tmp 15)]), none⟩, ⟨(some 6), (.mov (.tmp 16)), none⟩]) (.seq (.ops [⟨(some 17), (.mov (.tmp 6)), none⟩, ⟨(some 18), (.cmp .neq (.tmp 17) (.const (.int .i64 0))), none⟩]) (.cond (.tmp 18) (.seq (.ops [⟨(some 19), (.build [(.int .i64 0), (.int .i64 0)] []), none⟩, ⟨(some 20), (.mov (.tmp 6)), none⟩, ⟨none, (.store 2 (.tmp 4) (.tmp 19)), none⟩, ⟨(some 5), (.mov (.tmp 20)), none⟩]) .ret) .skip))) (.seq (.ops [⟨(some 22), (.loadN 1 (.tmp 2)), none⟩, ⟨(some 23), (.mkFunc (.func 150) [] [(.tmp 3)]), none⟩, ⟨(some 24), (.call (.func 139) [(.tmp 22), (.tmp 23)]), none⟩, ⟨(some 21), (.mov (.tmp 24)), none⟩, ⟨(some 25), (.extract (.tmp 21) 0), none⟩, ⟨(some 26), (.extract (.tmp 21) 1), none⟩, ⟨(some 7), (.new [(.int .i64 0), (.int .i64 0), (.int .i64 0), (.int .i64 0)]), none⟩, ⟨none, (.store 4 (.tmp 7) (.tmp 25)), none⟩, ⟨(some 8), (.mov (.tmp 26)), none⟩]) (.seq (.seq (.ops [⟨(some 27), (.mov (.tmp 8)), none⟩, ⟨(some 28), (.not (.tmp 27)), none⟩]) (.cond (.tmp 28) (.seq (.ops [⟨(some 29), (.build [(.int .i64 0), (.int .i64 0)] []), none⟩, ⟨none, (.store 2 (.tmp 4) (.tmp 29)), none⟩, ⟨(some 5), (.mov (.const (.int .i64 2))), none⟩]) .ret) .skip)) (.seq (.draw [(⟨(some 31), (.load (.tmp 3)), none⟩, false), (⟨(some 32), (.fieldAddr 0 (.tmp 7)), none⟩, false), (⟨(some 33), (.fieldAddr 1 (.tmp 32)), none⟩, false), (⟨(some 34), (.load (.tmp 33)), none⟩, false), (⟨(some 35), (.arith .sub (.tmp 31) (.tmp 34)), none⟩, false), (⟨(some 36), (.conv .u64 (.tmp 35)), none⟩, false), (⟨(some 37), (.loadN 4 (.tmp 7)), none⟩, false), (⟨(some 38), (.call (.func 110) [(.tmp 37)]), none⟩, false), (⟨(some 39), (.arith .mul (.const (.int .i64 64)) (.tmp 38)), none⟩, false), (⟨(some 40), (.conv .u64 (.tmp 39)), none⟩, false), (⟨(some 41), (.call (.func 151) [(.tmp 36), (.tmp 40)]), none⟩, false), (⟨(some 30), (.mov (.tmp 41)), none⟩, false), (⟨(some 42), (.extract (.tmp 30) 0), none⟩, false), (⟨(some 43), (.extract (.tmp 30) 1), none⟩, false), (⟨(some 9), (.mov (.tmp 42)), none⟩, false), (⟨(some 10), (.mov (.tmp 43)), none⟩, false)]) (.seq (.ops [⟨(some 45), (.mov (.tmp 9)), none⟩, ⟨(some 46), (.mov (.tmp 10)), none⟩, ⟨(some 47), (.loadN 4 (.tmp 7)), none⟩, ⟨(some 48), (.call (.func 142) [(.tmp 47)]), none⟩, ⟨(some 49), (.conv .u64 (.tmp 48)), none⟩, ⟨(some 50), (.call (.func 152) [(.tmp 45), (.tmp 46), (.tmp 49)]), none⟩, ⟨(some 44), (.mov (.tmp 50)), none⟩, ⟨(some 51), (.extract (.tmp 44) 0), none⟩, ⟨(some 52), (.extract (.tmp 44) 1), none⟩, ⟨(some 11), (.mov (.tmp 51)), none⟩, ⟨(some 12), (.mov (.tmp 52)), none⟩]) (.seq (.ops [⟨(some 53), (.fieldAddr 0 (.tmp 7)), none⟩, ⟨(some 54), (.fieldAddr 0 (.tmp 53)), none⟩, ⟨(some 55), (.load (.tmp 54)), none⟩, ⟨(some 56), (.arith .mul (.const (.int .i64 64)) (.tmp 55)), none⟩, ⟨(some 57), (.mov (.tmp 11)), none⟩, ⟨(some 58), (.conv .i64 (.tmp 57)), none⟩, ⟨(some 59), (.arith .add (.tmp 56) (.tmp 58)), none⟩, ⟨(some 13), (.mov (.tmp 59)), none⟩]) (.seq (.seq (.ops [⟨(some 60), (.mov (.tmp 12)), none⟩, ⟨(some 61), (.cmp .eql (.tmp 60) (.const (.int .u64 0))), none⟩]) (.cond (.tmp 61) (.seq (.ops [⟨(some 62), (.mov (.tmp 13)), none⟩, ⟨(some 63), (.mov (.tmp 13)), none⟩, ⟨(some 64), (.build [(.int .i64 0), (.int .i64 0)] [(0, (1, (.tmp 62))), (1, (1, (.tmp 63)))]), none⟩, ⟨none, (.store 2 (.tmp 4) (.tmp 64)), none⟩, ⟨(some 5), (.mov (.const (.int .i64 0))), none⟩]) .ret) .skip)) (.seq (.ops [⟨(some 65), (.mov (.tmp 13)), none⟩, ⟨(some 66), (.mov (.tmp 13)), none⟩, ⟨(some 67), (.arith .add (.tmp 66) (.const (.int .i64 1))), none⟩, ⟨(some 68), (.build [(.int .i64 0), (.int .i64 0)] [(0, (1, (.tmp 65))), (1, (1, (.tmp 67)))]), none⟩, ⟨none, (.store 2 (.tmp 4) (.tmp 68)), none⟩, ⟨(some 5), (.mov (.const (.int .i64 0))), none⟩]) .ret))))))))), 69, [(.loadN 2 4), (.tmp 5)]⟩
theorem c148 : compileFn Go.Proofs.Tryd.prog Go.Proofs.Tryd.f148 = some R148 := by kernel_rfl
theorem n148 : R148.ntmps = 69 := rfl
theorem a148 {args : List Value} {H : AHeap} {Q : Value → AHeap → Prop} (h : AWP Go.Proofs.Tryd.prog none R148.code (Fin R148 Q) (args ++ List.replicate (R148.ntmps - args.length) undef) H) : ACall Go.Proofs.Tryd.prog 148 args H Q := acall_intro mo Go.Proofs.Tryd.func148 c148 h

def R149 : RFunc :=
  ⟨(.seq (.ops [⟨(some 1), (.box (.tmp 0)), none⟩, ⟨(some 2), (.mov (.const .nilFunc)), none⟩]) (.seq (.ops [⟨(some 3), (.mkFunc (.func 153) [] [(.tmp 1)]), none⟩, ⟨(some 2), (.mov (.tmp 3)), none⟩]) .ret)), 4, [(.tmp 2)]⟩
theorem c149 : compileFn Go.Proofs.Tryd.prog Go.Proofs.Tryd.f149 = some R149 := by kernel_rfl
theorem n149 : R149.ntmps = 4 := rfl
theorem a149 {args : List Value} {H : AHeap} {Q : Value → AHeap → Prop} (h : AWP Go.Proofs.Tryd.prog none R149.code (Fin R149 Q) (args ++ List.replicate (R149.ntmps - args.length) undef) H) : ACall Go.Proofs.Tryd.prog 149 args H Q := acall_intro mo Go.Proofs.Tryd.func149 c149 h

def R150 : RFunc :=
  ⟨(.seq (.ops [⟨(some 2), (.box (.tmp 0)), none⟩, ⟨(some 3), (.mov (.const (.bool false))), none⟩]) (.seq (.ops [⟨(some 4), (.load (.tmp 1)), none⟩, ⟨(some 5), (.fieldAddr 0 (.tmp 2)), none⟩, ⟨(some 6), (.fieldAddr 1 (.tmp 5)), none⟩, ⟨(some 7), (.load (.tmp 6)), none⟩, ⟨(some 8), (.fieldAddr 2 (.tmp 2)), none⟩, ⟨(some 9), (.fieldAddr 1 (.tmp 8)), none⟩, ⟨(some 10), (.load (.tmp 9)), none⟩, ⟨(some 11), (.call (.func 141) [(.tmp 4), (.tmp 7), (.tmp 10)]), none⟩, ⟨(some 3), (.mov (.tmp 11)), none⟩]) .ret)), 12, [(.tmp 3)]⟩
theorem c150 : compileFn Go.Proofs.Tryd.prog Go.Proofs.Tryd.f150 = some R150 := by kernel_rfl
theorem n150 : R150.ntmps = 12 := rfl
theorem a150 {args : List Value} {H : AHeap} {Q : Value → AHeap → Prop} (h : AWP Go.Proofs.Tryd.prog none R150.code (Fin R150 Q) (args ++ List.replicate (R150.ntmps - args.length) undef) H) : ACall Go.Proofs.Tryd.prog 150 args H Q := acall_intro mo Go.Proofs.Tryd.func150 c150 h

def R151 : RFunc :=
  ⟨(.seq (.ops [⟨(some 4), (.mov (.const (.int .u64 0))), none⟩, ⟨(some 5), (.mov (.const (.int .u64 0))), none⟩]) (.seq (.ops [⟨(some 14), (.mov (.tmp 0)), none⟩, ⟨(some 15), (.band (.tmp 14) (.const (.int .u64 4294967295))), none⟩, ⟨(some 6), (.mov (.tmp 15)), none⟩]) (.seq (.ops [⟨(some 16), (.mov (.tmp 0)), none⟩, ⟨(some 17), (.shr (.tmp 16) (.const (.int .u64 32))), none⟩, ⟨(some 7), (.mov (.tmp 17)), none⟩]) (.seq (.ops [⟨(some 18), (.mov (.tmp 1)), none⟩, ⟨(some 19), (.band (.tmp 18) (.const (.int .u64 4294967295))), none⟩, ⟨(some 8), (.mov (.tmp 19)), none⟩]) (.seq (.ops [⟨(some 20), (.mov (.tmp 1)), none⟩, ⟨(some 21), (.shr (.tmp 20) (.const (.int .u64 32))), none⟩, ⟨(some 9), (.mov (.tmp 21)), none⟩]) (.seq (.ops [⟨(some 22), (.mov (.tmp 6)), none⟩, ⟨(some 23), (.mov (.tmp 8)), none⟩, ⟨(some 24), (.arith .mul (.tmp 22) (.tmp 23)), none⟩, ⟨(some 10), (.mov (.tmp 24)), none⟩]) (.seq (.ops [⟨(some 25), (.mov (.tmp 7)), none⟩, ⟨(some 26), (.mov (.tmp 8)), none⟩, ⟨(some 27), (.arith .mul (.tmp 25) (.tmp 26)), none⟩, ⟨(some 28), (.mov (.tmp 10)), none⟩, ⟨(some 29), (.shr (.tmp 28) (.const (.int .u64 32))), none⟩, ⟨(some 30), (.arith .add (.tmp 27) (.tmp 29)), none⟩, ⟨(some 11), (.mov (.tmp 30)), none⟩]) (.seq (.ops [⟨(some 31), (.mov (.tmp 11)), none⟩, ⟨(some 32), (.band (.tmp 31) (.const (.int .u64 4294967295))), none⟩, ⟨(some 12), (.mov (.tmp 32)), none⟩]) (.seq (.ops [⟨(some 33), (.mov (.tmp 11)), none⟩, ⟨(some 34), (.shr (.tmp 33) (.const (.int .u64 32))), none⟩, ⟨(some 13), (.mov (.tmp 34)), none⟩]) (.seq (.ops [⟨(some 35), (.mov (.tmp 12)), none⟩, ⟨(some 36), (.mov (.tmp 6)), none⟩, ⟨(some 37), (.mov (.tmp 9)), none⟩, ⟨(some 38), (.arith .mul (.tmp 36) (.tmp 37)), none⟩, ⟨(some 39), (.arith .add (.tmp 35) (.tmp 38)), none⟩, ⟨(some 12), (.mov (.tmp 39)), none⟩]) (.seq (.ops [⟨(some 40), (.mov (.tmp 7)), none⟩, ⟨(some 41), (.mov (.tmp 9)), none⟩, ⟨(some 42), (.arith .mul (.tmp 40) (.tmp 41)), none⟩, ⟨(some 43), (.mov (.tmp 13)), none⟩, ⟨(some 44), (.arith .add (.tmp 42) (.tmp 43)), none⟩, ⟨(some 45), (.mov (.tmp 12)), none⟩, ⟨(some 46), (.shr (.tmp 45) (.const (.int .u64 32))), none⟩, ⟨(some 47), (.arith .add (.tmp 44) (.tmp 46)), none⟩, ⟨(some 4), (.mov (.tmp 47)), none⟩]) (.seq (.ops [⟨(some 48), (.mov (.tmp 0)), none⟩, ⟨(some 49), (.mov (.tmp 1)), none⟩, ⟨(some 50), (.arith .mul (.tmp 48) (.tmp 49)), none⟩, ⟨(some 5), (.mov (.tmp 50)), none⟩]) .ret)))))))))))), 51, [(.tmp 4), (.tmp 5)]⟩
theorem c151 : compileFn Go.Proofs.Tryd.prog Go.Proofs.Tryd.f151 = some R151 := by kernel_rfl
theorem n151 : R151.ntmps = 51 := rfl
theorem a151 {args : List Value} {H : AHeap} {Q : Value → AHeap → Prop} (h : AWP Go.Proofs.Tryd.prog none R151.code (Fin R151 Q) (args ++ List.replicate (R151.ntmps - args.length) undef) H) : ACall Go.Proofs.Tryd.prog 151 args H Q := acall_intro mo Go.Proofs.Tryd.func151 c151 h

def R152 : RFunc :=
  ⟨(.seq (.ops [⟨(some 6), (.mov (.const (.int .u64 0))), none⟩, ⟨(some 7), (.mov (.const (.int .u64 0))), none⟩]) (.seq (.seq (.ops [⟨(some 19), (.mov (.tmp 2)), none⟩, ⟨(some 20), (.cmp .eql (.tmp 19) (.const (.int .u64 0))), none⟩]) (.cond (.tmp 20) (.ops [⟨(some 21), (.load (.global 1)), none⟩, ⟨none, (.extract (.const (.chan none)) 0), none⟩]) .skip)) (.seq (.seq (.ops [⟨(some 22), (.mov (.tmp 2)), none⟩, ⟨(some 23), (.mov (.tmp 0)), none⟩, ⟨(some 24), (.cmp .leq (.tmp 22) (.tmp 23)), none⟩]) (.cond (.tmp 24) (.ops [⟨(some 25), (.load (.global 2)), none⟩, ⟨none, (.extract (.const (.chan none)) 0), none⟩]) .skip)) (.seq (.seq (.ops [⟨(some 26), (.mov (.tmp 0)), none⟩, ⟨(some 27), (.cmp .eql (.tmp 26) (.const (.int .u64 0))), none⟩]) (.cond (.tmp 27) (.seq (.draw [(⟨(some 28), (.mov (.tmp 1)), none⟩, false), (⟨(some 29), (.mov (.tmp 2)), none⟩, false), (⟨(some 30), (.arith .quo (.tmp 28) (.tmp 29)), none⟩, false), (⟨(some 31), (.mov (.tmp 1)), none⟩, false), (⟨(some 32), (.mov (.tmp 2)), none⟩, false), (⟨(some 33), (.arith .rem (.tmp 31) (.tmp 32)), none⟩, false), (⟨(some 6), (.mov (.tmp 30)), none⟩, false), (⟨(some 7), (.mov (.tmp 33)), none⟩, false)]) .ret) .skip)) (.seq (.ops [⟨(some 34), (.mov (.tmp 2)), none⟩, ⟨(some 35), (.call (.func 154) [(.tmp 34)]), none⟩, ⟨(some 36), (.conv .u64 (.tmp 35)), none⟩, ⟨(some 8), (.mov (.tmp 36)), none⟩]) (.seq (.ops [⟨(some 37), (.mov (.tmp 2)), none⟩, ⟨(some 38), (.mov (.tmp 8)), none⟩, ⟨(some 39), (.extract (.const (.chan none)) 0), none⟩, ⟨(some 2), (.mov (.tmp 39)), none⟩]) (.seq (.ops [⟨(some 40), (.mov (.tmp 2)), none⟩, ⟨(some 41), (.shr (.tmp 40) (.const (.int .u64 32))), none⟩, ⟨(some 9), (.mov (.tmp 41)), none⟩]) (.seq (.ops [⟨(some 42), (.mov (.tmp 2)), none⟩, ⟨(some 43), (.band (.tmp 42) (.const (.int .u64 4294967295))), none⟩, ⟨(some 10), (.mov (.tmp 43)), none⟩]) (.seq (.ops [⟨(some 44), (.mov (.tmp 0)), none⟩, ⟨(some 45), (.mov (.tmp 8)), none⟩, ⟨(some 46), (.extract (.const (.chan none)) 0), none⟩, ⟨(some 47), (.mov (.tmp 1)), none⟩, ⟨(some 48), (.mov (.tmp 8)), none⟩, ⟨(some 49), (.arith .sub (.const (.int .u64 64)) (.tmp 48)), none⟩, ⟨(some 50), (.shr (.tmp 47) (.tmp 49)), none⟩, ⟨(some 51), (.extract (.const (.chan none)) 0), none⟩, ⟨(some 11), (.mov (.tmp 51)), none⟩]) (.seq (.ops [⟨(some 52), (.mov (.tmp 1)), none⟩, ⟨(some 53), (.mov (.tmp 8)), none⟩, ⟨(some 54), (.extract (.const (.chan none)) 0), none⟩, ⟨(some 12), (.mov (.tmp 54)), none⟩]) (.seq (.ops [⟨(some 55), (.mov (.tmp 12)), none⟩, ⟨(some 56), (.shr (.tmp 55) (.const (.int .u64 32))), none⟩, ⟨(some 13), (.mov (.tmp 56)), none⟩]) (.seq (.ops [⟨(some 57), (.mov (.tmp 12)), none⟩, ⟨(some 58), (.band (.tmp 57) (.const (.int .u64 4294967295))), none⟩, ⟨(some 14), (.mov (.tmp 58)), none⟩]) (.seq (.ops [⟨(some 59), (.mov (.tmp 11)), none⟩, ⟨(some 60), (.mov (.tmp 9)), none⟩, ⟨(some 61), (.arith .quo (.tmp 59) (.tmp 60)), none⟩, ⟨(some 15), (.mov (.tmp 61)), none⟩]) (.seq (.ops [⟨(some 62), (.mov (.tmp 11)), none⟩, ⟨(some 63), (.mov (.tmp 15)), none⟩, ⟨(some 64), (.mov (.tmp 9)), none⟩, ⟨(some 65), (.arith .mul (.tmp 63) (.tmp 64)), none⟩, ⟨(some 66), (.arith .sub (.tmp 62) (.tmp 65)), none⟩, ⟨(some 16), (.mov (.tmp 66)), none⟩]) (.seq (.block 0 (.loop (.seq (.seq (.ops [⟨(some 67), (.mov (.tmp 15)), none⟩, ⟨(some 68), (.cmp .geq (.tmp 67) (.const (.int .u64 4294967296))), none⟩, ⟨(some 69), (.mov (.tmp 68)), none⟩, ⟨(some 70), (.mov (.tmp 15)), (some (69, false))⟩, ⟨(some 71), (.mov (.tmp 10)), (some (69, false))⟩, ⟨(some 72), (.arith .mul (.tmp 70) (.tmp 71)), (some (69, false))⟩, ⟨(some 73), (.mov (.tmp 16)), (some (69, false))⟩, ⟨(some 74), (.arith .mul (.const (.int .u64 4294967296)) (.tmp 73)), (some (69, false))⟩, ⟨(some 75), (.mov (.tmp 13)), (some (69, false))⟩, ⟨(some 76), (.arith .add (.tmp 74) (.tmp 75)), (some (69, false))⟩, ⟨(some 77), (.cmp .gtr (.tmp 72) (.tmp 76)), (some (69, false))⟩, ⟨(some 78), (.pick (.tmp 69) (.const (.bool true)) (.tmp 77)), none⟩]) (.cond (.tmp 78) .skip (.exit 0))) (.block 1 (.seq (.ops [⟨(some 79), (.mov (.tmp 15)), none⟩, ⟨(some 80), (.arith .sub (.tmp 79) (.const (.int .u64 1))), none⟩, ⟨(some 15), (.mov (.tmp 80)), none⟩]) (.seq (.ops [⟨(some 81), (.mov (.tmp 16)), none⟩, ⟨(some 82), (.mov (.tmp 9)), none⟩, ⟨(some 83), (.arith .add (.tmp 81) (.tmp 82)), none⟩, ⟨(some 16), (.mov (.tmp 83)), none⟩]) (.seq (.ops [⟨(some 84), (.mov (.tmp 16)), none⟩, ⟨(some 85), (.cmp .geq (.tmp 84) (.const (.int .u64 4294967296))), none⟩]) (.cond (.tmp 85) (.exit 0) .skip)))))))) (.seq (.ops [⟨(some 86), (.mov (.tmp 11)), none⟩, ⟨(some 87), (.arith .mul (.tmp 86) (.const (.int .u64 4294967296))), none⟩, ⟨(some 88), (.mov (.tmp 13)), none⟩, ⟨(some 89), (.arith .add (.tmp 87) (.tmp 88)), none⟩, ⟨(some 90), (.mov (.tmp 15)), none⟩, ⟨(some 91), (.mov (.tmp 2)), none⟩, ⟨(some 92), (.arith .mul (.tmp 90) (.tmp 91)), none⟩, ⟨(some 93), (.arith .sub (.tmp 89) (.tmp 92)), none⟩, ⟨(some 17), (.mov (.tmp 93)), none⟩]) (.seq (.ops [⟨(some 94), (.mov (.tmp 17)), none⟩, ⟨(some 95), (.mov (.tmp 9)), none⟩, ⟨(some 96), (.arith .quo (.tmp 94) (.tmp 95)), none⟩, ⟨(some 18), (.mov (.tmp 96)), none⟩]) (.seq (.ops [⟨(some 97), (.mov (.tmp 17)), none⟩, ⟨(some 98), (.mov (.tmp 18)), none⟩, ⟨(some 99), (.mov (.tmp 9)), none⟩, ⟨(some 100), (.arith .mul (.tmp 98) (.tmp 99)), none⟩, ⟨(some 101), (.arith .sub (.tmp 97) (.tmp 100)), none⟩, ⟨(some 16), (.mov (.tmp 101)), none⟩]) (.seq (.block 2 (.loop (.seq (.seq (.ops [⟨(some 102), (.mov (.tmp 18)), none⟩, ⟨(some 103), (.cmp .geq (.tmp 102) (.const (.int .u64 4294967296))), none⟩, ⟨(some 104), (.mov (.tmp 103)), none⟩, ⟨(some 105), (.mov (.tmp 18)), (some (104, false))⟩, ⟨(some 106), (.mov (.tmp 10)), (some (104, false))⟩, ⟨(some 107), (.arith .mul (.tmp 105) (.tmp 106)), (some (104, false))⟩, ⟨(some 108), (.mov (.tmp 16)), (some (104, false))⟩, ⟨(some 109), (.arith .mul (.const (.int .u64 4294967296)) (.tmp 108)), (some (104, false))⟩, ⟨(some 110), (.mov (.tmp 14)), (some (104, false))⟩, ⟨(some 111), (.arith .add (.tmp 109) (.tmp 110)), (some (104, false))⟩, ⟨(some 112), (.cmp .gtr (.tmp 107) (.tmp 111)), (some (104, false))⟩, ⟨(some 113), (.pick (.tmp 104) (.const (.bool true)) (.tmp 112)), none⟩]) (.cond (.tmp 113) .skip (.exit 2))) (.block 3 (.seq (.ops [⟨(some 114), (.mov (.tmp 18)), none⟩, ⟨(some 115), (.arith .sub (.tmp 114) (.const (.int .u64 1))), none⟩, ⟨(some 18), (.mov (.tmp 115)), none⟩]) (.seq (.ops [⟨(some 116), (.mov (.tmp 16)), none⟩, ⟨(some 117), (.mov (.tmp 9)), none⟩, ⟨(some 118), (.arith .add (.tmp 116) (.tmp 117)), none⟩, ⟨(some 16), (.mov (.tmp 118)), none⟩]) (.seq (.ops [⟨(some 119), (.mov (.tmp 16)), none⟩, ⟨(some 120), (.cmp .geq (.tmp 119) (.const (.int .u64 4294967296))), none⟩]) (.cond (.tmp 120) (.exit 2) .skip)))))))) (.seq (.ops [⟨(some 121), (.mov (.tmp 15)), none⟩, ⟨(some 122), (.arith .mul (.tmp 121) (.const (.int .u64 4294967296))), none⟩, ⟨(some 123), (.mov (.tmp 18)), none⟩, ⟨(some 124), (.arith .add (.tmp 122) (.tmp 123)), none⟩, ⟨(some 125), (.mov (.tmp 17)), none⟩, ⟨(some 126), (.arith .mul (.tmp 125) (.const (.int .u64 4294967296))), none⟩, ⟨(some 127), (.mov (.tmp 14)), none⟩, ⟨(some 128), (.arith .add (.tmp 126) (.tmp 127)), none⟩, ⟨(some 129), (.mov (.tmp 18)), none⟩, ⟨(some 130), (.mov (.tmp 2)), none⟩, ⟨(some 131), (.arith .mul (.tmp 129) (.tmp 130)), none⟩, ⟨(some 132), (.arith .sub (.tmp 128) (.tmp 131)), none⟩, ⟨(some 133), (.mov (.tmp 8)), none⟩, ⟨(some 134), (.shr (.tmp 132) (.tmp 133)), none⟩, ⟨(some 6), (.mov (.tmp 124)), none⟩, ⟨(some 7), (.mov (.tmp 134)), none⟩]) .ret)))))))))))))))))))), 135, [(.tmp 6), (.tmp 7)]⟩
theorem c152 : compileFn Go.Proofs.Tryd.prog Go.Proofs.Tryd.f152 = some R152 := by kernel_rfl
theorem n152 : R152.ntmps = 135 := rfl
theorem a152 {args : List Value} {H : AHeap} {Q : Value → AHeap → Prop} (h : AWP Go.Proofs.Tryd.prog none R152.code (Fin R152 Q) (args ++ List.replicate (R152.ntmps - args.length) undef) H) : ACall Go.Proofs.Tryd.prog 152 args H Q := acall_intro mo Go.Proofs.Tryd.func152 c152 h

def R153 : RFunc :=
  ⟨(.seq (.ops [⟨(some 4), (.fieldAddr 0 (.tmp 1)), none⟩, ⟨(some 5), (.load (.tmp 4)), none⟩, ⟨(some 6), (.len (.tmp 5)), none⟩, ⟨(some 7), (.arith .sub (.tmp 6) (.const (.int .i64 1))), none⟩, ⟨(some 8), (.mov (.const (.int .i64 0))), none⟩]) (.block 0 (.loop (.seq (.ops [⟨(some 9), (.cmp .lss (.tmp 8) (.tmp 7)), none⟩]) (.seq (.cond (.tmp 9) .skip (.exit 0)) (.seq (.block 1 (.seq (.ops [⟨(some 10), (.mov (.tmp 8)), none⟩, ⟨(some 3), (.mov (.tmp 10)), none⟩]) (.seq (.draw [(⟨(some 11), (.mov (.tmp 0)), none⟩, false), (⟨(some 12), (.mov (.tmp 3)), none⟩, false), (⟨(some 13), (.fieldAddr 0 (.tmp 1)), none⟩, false), (⟨(some 14), (.load (.tmp 13)), none⟩, false), (⟨(some 15), (.mov (.tmp 3)), none⟩, false), (⟨(some 16), (.idxAddr 2 (.tmp 14) (.tmp 15)), none⟩, false), (⟨(some 17), (.loadN 2 (.tmp 16)), none⟩, false), (⟨(some 18), (.fieldAddr 0 (.tmp 1)), none⟩, false), (⟨(some 19), (.load (.tmp 18)), none⟩, false), (⟨(some 20), (.mov (.tmp 3)), none⟩, false), (⟨(some 21), (.arith .add (.tmp 20) (.const (.int .i64 1))), none⟩, false), (⟨(some 22), (.idxAddr 2 (.tmp 19) (.tmp 21)), none⟩, false), (⟨(some 23), (.loadN 2 (.tmp 22)), none⟩, false), (⟨(some 24), (.build [(.int .i64 0), (.int .i64 0), (.int .i64 0), (.int .i64 0)] [(0, (2, (.tmp 17))), (2, (2, (.tmp 23)))]), none⟩, false), (⟨(some 25), (.call (.tmp 11) [(.tmp 12), (.tmp 24)]), none⟩, true), (⟨(some 26), (.not (.tmp 25)), none⟩, false)]) (.cond (.tmp 26) .ret .skip)))) (.ops [⟨(some 27), (.arith .add (.tmp 8) (.const (.int .i64 1))), none⟩, ⟨(some 8), (.mov (.tmp 27)), none⟩]))))))), 28, []⟩
theorem c153 : compileFn Go.Proofs.Tryd.prog Go.Proofs.Tryd.f153 = some R153 := by kernel_rfl
theorem n153 : R153.ntmps = 28 := rfl
theorem a153 {args : List Value} {H : AHeap} {Q : Value → AHeap → Prop} (h : AWP Go.Proofs.Tryd.prog none R153.code (Fin R153 Q) (args ++ List.replicate (R153.ntmps - args.length) undef) H) : ACall Go.Proofs.Tryd.prog 153 args H Q := acall_intro mo Go.Proofs.Tryd.func153 c153 h

def R154 : RFunc :=
  ⟨(.seq (.ops [⟨(some 2), (.mov (.const (.int .i64 0))), none⟩]) (.seq (.ops [⟨(some 3), (.mov (.tmp 0)), none⟩, ⟨(some 4), (.call (.func 155) [(.tmp 3)]), none⟩, ⟨(some 5), (.arith .sub (.const (.int .i64 64)) (.tmp 4)), none⟩, ⟨(some 2), (.mov (.tmp 5)), none⟩]) .ret)), 6, [(.tmp 2)]⟩
theorem c154 : compileFn Go.Proofs.Tryd.prog Go.Proofs.Tryd.f154 = some R154 := by kernel_rfl
theorem n154 : R154.ntmps = 6 := rfl
theorem a154 {args : List Value} {H : AHeap} {Q : Value → AHeap → Prop} (h : AWP Go.Proofs.Tryd.prog none R154.code (Fin R154 Q) (args ++ List.replicate (R154.ntmps - args.length) undef) H) : ACall Go.Proofs.Tryd.prog 154 args H Q := acall_intro mo Go.Proofs.Tryd.func154 c154 h

def R155 : RFunc :=
  ⟨(.seq (.ops [⟨(some 2), (.mov (.const (.int .i64 0))), none⟩]) (.seq (.seq (.ops [⟨(some 3), (.mov (.tmp 0)), none⟩, ⟨(some 4), (.cmp .geq (.tmp 3) (.const (.int .u64 4294967296))), none⟩]) (.cond (.tmp 4) (.seq (.ops [⟨(some 5), (.mov (.tmp 0)), none⟩, ⟨(some 6), (.shr (.tmp 5) (.const (.int .u64 32))), none⟩, ⟨(some 0), (.mov (.tmp 6)), none⟩]) (.ops [⟨(some 2), (.mov (.const (.int .i64 32))), none⟩])) .skip)) (.seq (.seq (.ops [⟨(some 7), (.mov (.tmp 0)), none⟩, ⟨(some 8), (.cmp .geq (.tmp 7) (.const (.int .u64 65536))), none⟩]) (.cond (.tmp 8) (.seq (.ops [⟨(some 9), (.mov (.tmp 0)), none⟩, ⟨(some 10), (.shr (.tmp 9) (.const (.int .u64 16))), none⟩, ⟨(some 0), (.mov (.tmp 10)), none⟩]) (.ops [⟨(some 11), (.mov (.tmp 2)), none⟩, ⟨(some 12), (.arith .add (.tmp 11) (.const (.int .i64 16))), none⟩, ⟨(some 2), (.mov (.tmp 12)), none⟩])) .skip)) (.seq (.seq (.ops [⟨(some 13), (.mov (.tmp 0)), none⟩, ⟨(some 14), (.cmp .geq (.tmp 13) (.const (.int .u64 256))), none⟩]) (.cond (.tmp 14) (.seq (.ops [⟨(some 15), (.mov (.tmp 0)), none⟩, ⟨(some 16), (.shr (.tmp 15) (.const (.int .u64 8))), none⟩, ⟨(some 0), (.mov (.tmp 16)), none⟩]) (.ops [⟨(some 17), (.mov (.tmp 2)), none⟩, ⟨(some 18), (.arith .add (.tmp 17) (.const (.int .i64 8))), none⟩, ⟨(some 2), (.mov (.tmp 18)), none⟩])) .skip)) (.seq (.ops [⟨(some 19), (.mov (.tmp 2)), none⟩, ⟨(some 20), (.mov (.tmp 0)), none⟩, ⟨(some 21), (.conv .u8 (.tmp 20)), none⟩, ⟨(some 22), (.extract (.const (.chan none)) 0), none⟩, ⟨(some 23), (.conv .i64 (.tmp 22)), none⟩, ⟨(some 24), (.arith .add (.tmp 19) (.tmp 23)), none⟩, ⟨(some 2), (.mov (.tmp 24)), none⟩]) .ret))))), 25, [(.tmp 2)]⟩
theorem c155 : compileFn Go.Proofs.Tryd.prog Go.Proofs.Tryd.f155 = some R155 := by kernel_rfl
theorem n155 : R155.ntmps = 25 := rfl
theorem a155 {args : List Value} {H : AHeap} {Q : Value → AHeap → Prop} (h : AWP Go.Proofs.Tryd.prog none R155.code (Fin R155 Q) (args ++ List.replicate (R155.ntmps - args.length) undef) H) : ACall Go.Proofs.Tryd.prog 155 args H Q := acall_intro mo Go.Proofs.Tryd.func155 c155 h

def R173 : RFunc :=
  ⟨(.seq (.ops [⟨(some 2), (.mov (.const (.slice none 0 0))), none⟩]) (.seq (.ops [⟨(some 3), (.mov (.tmp 0)), none⟩, ⟨(some 4), (.arith .sub (.const (.int .i64 64)) (.tmp 3)), none⟩, ⟨(some 5), (.mov (.tmp 0)), none⟩, ⟨(some 6), (.buildSlice 1 2 [(.int .i64 0), (.int .i64 0)] [(0, (1, (.tmp 4))), (1, (1, (.tmp 5)))]), none⟩, ⟨(some 2), (.mov (.tmp 6)), none⟩]) .ret)), 7, [(.tmp 2)]⟩
theorem c173 : compileFn Go.Proofs.Tryd.prog Go.Proofs.Tryd.f173 = some R173 := by kernel_rfl
theorem n173 : R173.ntmps = 7 := rfl
theorem a173 {args : List Value} {H : AHeap} {Q : Value → AHeap → Prop} (h : AWP Go.Proofs.Tryd.prog none R173.code (Fin R173 Q) (args ++ List.replicate (R173.ntmps - args.length) undef) H) : ACall Go.Proofs.Tryd.prog 173 args H Q := acall_intro mo Go.Proofs.Tryd.func173 c173 h

def R174 : RFunc :=
  ⟨(.seq (.ops [⟨(some 2), (.mov (.const (.int .i64 0))), none⟩]) (.seq (.ops [⟨(some 3), (.mov (.tmp 0)), none⟩, ⟨(some 4), (.mov (.tmp 0)), none⟩, ⟨(some 5), (.arith .sub (.tmp 4) (.const (.int .i64 64))), none⟩, ⟨(some 6), (.arith .mul (.tmp 3) (.tmp 5)), none⟩, ⟨(some 2), (.mov (.tmp 6)), none⟩]) .ret)), 7, [(.tmp 2)]⟩
theorem c174 : compileFn Go.Proofs.Tryd.prog Go.Proofs.Tryd.f174 = some R174 := by kernel_rfl
theorem n174 : R174.ntmps = 7 := rfl
theorem a174 {args : List Value} {H : AHeap} {Q : Value → AHeap → Prop} (h : AWP Go.Proofs.Tryd.prog none R174.code (Fin R174 Q) (args ++ List.replicate (R174.ntmps - args.length) undef) H) : ACall Go.Proofs.Tryd.prog 174 args H Q := acall_intro mo Go.Proofs.Tryd.func174 c174 h

def R175 : RFunc :=
  ⟨(.seq (.ops [⟨(some 2), (.mov (.const (.slice none 0 0))), none⟩]) (.seq (.ops [⟨(some 6), (.mov (.tmp 0)), none⟩, ⟨(some 7), (.arith .add (.tmp 6) (.const (.int .i64 64))), none⟩, ⟨(some 8), (.mov (.tmp 0)), none⟩, ⟨(some 9), (.arith .sub (.tmp 8) (.const (.int .i64 64))), none⟩, ⟨(some 10), (.mov (.tmp 0)), none⟩, ⟨(some 11), (.arith .sub (.tmp 10) (.const (.int .i64 128))), none⟩, ⟨(some 3), (.mov (.tmp 7)), none⟩, ⟨(some 4), (.mov (.tmp 9)), none⟩, ⟨(some 5), (.mov (.tmp 11)), none⟩]) (.seq (.ops [⟨(some 12), (.mov (.tmp 0)), none⟩, ⟨(some 13), (.neg (.tmp 12)), none⟩, ⟨(some 14), (.mov (.tmp 4)), none⟩, ⟨(some 15), (.arith .mul (.tmp 13) (.tmp 14)), none⟩, ⟨(some 16), (.mov (.tmp 5)), none⟩, ⟨(some 17), (.arith .mul (.tmp 15) (.tmp 16)), none⟩, ⟨(some 18), (.mov (.tmp 3)), none⟩, ⟨(some 19), (.arith .mul (.const (.int .i64 3)) (.tmp 18)), none⟩, ⟨(some 20), (.mov (.tmp 4)), none⟩, ⟨(some 21), (.arith .mul (.tmp 19) (.tmp 20)), none⟩, ⟨(some 22), (.mov (.tmp 5)), none⟩, ⟨(some 23), (.arith .mul (.tmp 21) (.tmp 22)), none⟩, ⟨(some 24), (.mov (.tmp 3)), none⟩, ⟨(some 25), (.arith .mul (.const (.int .i64 (-3))) (.tmp 24)), none⟩, ⟨(some 26), (.mov (.tmp 0)), none⟩, ⟨(some 27), (.arith .mul (.tmp 25) (.tmp 26)), none⟩, ⟨(some 28), (.mov (.tmp 5)), none⟩, ⟨(some 29), (.arith .mul (.tmp 27) (.tmp 28)), none⟩, ⟨(some 30), (.mov (.tmp 3)), none⟩, ⟨(some 31), (.mov (.tmp 0)), none⟩, ⟨(some 32), (.arith .mul (.tmp 30) (.tmp 31)), none⟩, ⟨(some 33), (.mov (.tmp 4)), none⟩, ⟨(some 34), (.arith .mul (.tmp 32) (.tmp 33)), none⟩, ⟨(some 35), (.buildSlice 1 4 [(.int .i64 0), (.int .i64 0), (.int .i64 0), (.int .i64 0)] [(0, (1, (.tmp 17))), (1, (1, (.tmp 23))), (2, (1, (.tmp 29))), (3, (1, (.tmp 34)))]), none⟩, ⟨(some 2), (.mov (.tmp 35)), none⟩]) .ret))), 36, [(.tmp 2)]⟩
theorem c175 : compileFn Go.Proofs.Tryd.prog Go.Proofs.Tryd.f175 = some R175 := by kernel_rfl
theorem n175 : R175.ntmps = 36 := rfl
theorem a175 {args : List Value} {H : AHeap} {Q : Value → AHeap → Prop} (h : AWP Go.Proofs.Tryd.prog none R175.code (Fin R175 Q) (args ++ List.replicate (R175.ntmps - args.length) undef) H) : ACall Go.Proofs.Tryd.prog 175 args H Q := acall_intro mo Go.Proofs.Tryd.func175 c175 h

def R176 : RFunc :=
  ⟨(.seq (.ops [⟨(some 2), (.mov (.const (.int .i64 0))), none⟩]) (.seq (.ops [⟨(some 3), (.mov (.tmp 0)), none⟩, ⟨(some 4), (.arith .add (.tmp 3) (.const (.int .i64 64))), none⟩, ⟨(some 5), (.mov (.tmp 0)), none⟩, ⟨(some 6), (.arith .mul (.tmp 4) (.tmp 5)), none⟩, ⟨(some 7), (.mov (.tmp 0)), none⟩, ⟨(some 8), (.arith .sub (.tmp 7) (.const (.int .i64 64))), none⟩, ⟨(some 9), (.arith .mul (.tmp 6) (.tmp 8)), none⟩, ⟨(some 10), (.mov (.tmp 0)), none⟩, ⟨(some 11), (.arith .sub (.tmp 10) (.const (.int .i64 128))), none⟩, ⟨(some 12), (.arith .mul (.tmp 9) (.tmp 11)), none⟩, ⟨(some 2), (.mov (.tmp 12)), none⟩]) .ret)), 13, [(.tmp 2)]⟩
theorem c176 : compileFn Go.Proofs.Tryd.prog Go.Proofs.Tryd.f176 = some R176 := by kernel_rfl
theorem n176 : R176.ntmps = 13 := rfl
theorem a176 {args : List Value} {H : AHeap} {Q : Value → AHeap → Prop} (h : AWP Go.Proofs.Tryd.prog none R176.code (Fin R176 Q) (args ++ List.replicate (R176.ntmps - args.length) undef) H) : ACall Go.Proofs.Tryd.prog 176 args H Q := acall_intro mo Go.Proofs.Tryd.func176 c176 h

end Go.Lq

namespace Go.Lq
open Go

def tabA : List (Nat × RFunc) :=
  [(20, R20), (23, R23), (27, R27), (33, R33), (37, R37), (41, R41), (64, R64), (72, R72), (86, R86), (87, R87), (88, R88), (89, R89), (90, R90), (91, R91), (92, R92), (93, R93), (94, R94), (95, R95), (96, R96), (97, R97), (100, R100), (101, R101), (102, R102), (106, R106), (110, R110), (113, R113), (115, R115), (116, R116), (118, R118), (121, R121), (129, R129), (131, R131), (132, R132), (133, R133), (134, R134), (135, R135), (136, R136), (139, R139), (141, R141), (142, R142), (143, R143), (144, R144), (146, R146), (147, R147), (148, R148), (149, R149), (150, R150), (151, R151), (152, R152), (153, R153), (154, R154), (155, R155), (173, R173), (174, R174), (175, R175), (176, R176)]

def TA (f : Nat) : Option RFunc := (tabA.find? (fun p => p.1 == f)).map (·.2)

theorem soundTA : SoundT Go.Proofs.Tryd.prog TA := by
  intro f rf h
  have key : ∀ p ∈ tabA, ∃ fn, Go.Proofs.Tryd.prog.funcs[p.1]? = some fn ∧ compileFn Go.Proofs.Tryd.prog fn = some p.2 := by
    unfold tabA
    refine List.forall_mem_cons.2 ⟨⟨_, Go.Proofs.Tryd.func20, c20⟩, List.forall_mem_cons.2 ⟨⟨_, Go.Proofs.Tryd.func23, c23⟩, List.forall_mem_cons.2 ⟨⟨_, Go.Proofs.Tryd.func27, c27⟩, List.forall_mem_cons.2 ⟨⟨_, Go.Proofs.Tryd.func33, c33⟩, List.forall_mem_cons.2 ⟨⟨_, Go.Proofs.Tryd.func37, c37⟩, List.forall_mem_cons.2 ⟨⟨_, Go.Proofs.Tryd.func41, c41⟩, List.forall_mem_cons.2 ⟨⟨_, Go.Proofs.Tryd.func64, c64⟩, List.forall_mem_cons.2 ⟨⟨_, Go.Proofs.Tryd.func72, c72⟩, List.forall_mem_cons.2 ⟨⟨_, Go.Proofs.Tryd.func86, c86⟩, List.forall_mem_cons.2 ⟨⟨_, Go.Proofs.Tryd.func87, c87⟩, List.forall_mem_cons.2 ⟨⟨_, Go.Proofs.Tryd.func88, c88⟩, List.forall_mem_cons.2 ⟨⟨_, Go.Proofs.Tryd.func89, c89⟩, List.forall_mem_cons.2 ⟨⟨_, Go.Proofs.Tryd.func90, c90⟩, List.forall_mem_cons.2 ⟨⟨_, Go.Proofs.Tryd.func91, c91⟩, List.forall_mem_cons.2 ⟨⟨_, Go.Proofs.Tryd.func92, c92⟩, List.forall_mem_cons.2 ⟨⟨_, Go.Proofs.Tryd.func93, c93⟩, List.forall_mem_cons.2 ⟨⟨_, Go.Proofs.Tryd.func94, c94⟩, List.forall_mem_cons.2 ⟨⟨_, Go.Proofs.Tryd.func95, c95⟩, List.forall_mem_cons.2 ⟨⟨_, Go.Proofs.Tryd.func96, c96⟩, List.forall_mem_cons.2 ⟨⟨_, Go.Proofs.Tryd.func97, c97⟩, List.forall_mem_cons.2 ⟨⟨_, Go.Proofs.Tryd.func100, c100⟩, List.forall_mem_cons.2 ⟨⟨_, Go.Proofs.Tryd.func101, c101⟩, List.forall_mem_cons.2 ⟨⟨_, Go.Proofs.Tryd.func102, c102⟩, List.forall_mem_cons.2 ⟨⟨_, Go.Proofs.Tryd.func106, c106⟩, List.forall_mem_cons.2 ⟨⟨_, Go.Proofs.Tryd.func110, c110⟩, List.forall_mem_cons.2 ⟨⟨_, Go.Proofs.Tryd.func113, c113⟩, List.forall_mem_cons.2 ⟨⟨_, Go.Proofs.Tryd.func115, c115⟩, List.forall_mem_cons.2 ⟨⟨_, Go.Proofs.Tryd.func116, c116⟩, List.forall_mem_cons.2 ⟨⟨_, Go.Proofs.Tryd.func118, c118⟩, List.forall_mem_cons.2 ⟨⟨_, Go.Proofs.Tryd.func121, c121⟩, List.forall_mem_cons.2 ⟨⟨_, Go.Proofs.Tryd.func129, c129⟩, List.forall_mem_cons.2 ⟨⟨_, Go.Proofs.Tryd.func131, c131⟩, List.forall_mem_cons.2 ⟨⟨_, Go.Proofs.Tryd.func132, c132⟩, List.forall_mem_cons.2 ⟨⟨_, Go.Proofs.Tryd.func133, c133⟩, List.forall_mem_cons.2 ⟨⟨_, Go.Proofs.Tryd.func134, c134⟩, List.forall_mem_cons.2 ⟨⟨_, Go.Proofs.Tryd.func135, c135⟩, List.forall_mem_cons.2 ⟨⟨_, Go.Proofs.Tryd.func136, c136⟩, List.forall_mem_cons.2 ⟨⟨_, Go.Proofs.Tryd.func139, c139⟩, List.forall_mem_cons.2 ⟨⟨_, Go.Proofs.Tryd.func141, c141⟩, List.forall_mem_cons.2 ⟨⟨_, Go.Proofs.Tryd.func142, c142⟩, List.forall_mem_cons.2 ⟨⟨_, Go.Proofs.Tryd.func143, c143⟩, List.forall_mem_cons.2 ⟨⟨_, Go.Proofs.Tryd.func144, c144⟩, List.forall_mem_cons.2 ⟨⟨_, Go.Proofs.Tryd.func146, c146⟩, List.forall_mem_cons.2 ⟨⟨_, Go.Proofs.Tryd.func147, c147⟩, List.forall_mem_cons.2 ⟨⟨_, Go.Proofs.Tryd.func148, c148⟩, List.forall_mem_cons.2 ⟨⟨_, Go.Proofs.Tryd.func149, c149⟩, List.forall_mem_cons.2 ⟨⟨_, Go.Proofs.Tryd.func150, c150⟩, List.forall_mem_cons.2 ⟨⟨_, Go.Proofs.Tryd.func151, c151⟩, List.forall_mem_cons.2 ⟨⟨_, Go.Proofs.Tryd.func152, c152⟩, List.forall_mem_cons.2 ⟨⟨_, Go.Proofs.Tryd.func153, c153⟩, List.forall_mem_cons.2 ⟨⟨_, Go.Proofs.Tryd.func154, c154⟩, List.forall_mem_cons.2 ⟨⟨_, Go.Proofs.Tryd.func155, c155⟩, List.forall_mem_cons.2 ⟨⟨_, Go.Proofs.Tryd.func173, c173⟩, List.forall_mem_cons.2 ⟨⟨_, Go.Proofs.Tryd.func174, c174⟩, List.forall_mem_cons.2 ⟨⟨_, Go.Proofs.Tryd.func175, c175⟩, List.forall_mem_cons.2 ⟨⟨_, Go.Proofs.Tryd.func176, c176⟩, fun p hp => by cases hp⟩⟩⟩⟩⟩⟩⟩⟩⟩⟩⟩⟩⟩⟩⟩⟩⟩⟩⟩⟩⟩⟩⟩⟩⟩⟩⟩⟩⟩⟩⟩⟩⟩⟩⟩⟩⟩⟩⟩⟩⟩⟩⟩⟩⟩⟩⟩⟩⟩⟩⟩⟩⟩⟩⟩⟩
  simp only [TA, Option.map_eq_some_iff] at h
  obtain ⟨p, hp, rfl⟩ := h
  have hm := List.mem_of_find?_eq_some hp
  have hf := List.find?_some hp
  have : p.1 = f := by simpa using hf
  subst this
  exact key p hm

def colO (_ : Value) (_ : List Value) (_ : AHeap) : Option Value := none

end Go.Lq

namespace Go.Lq
open Go
def nth : Nat → RCode → RCode
  | 0, .seq a _ => a
  | n + 1, .seq _ b => nth n b
  | _, c => c
def kernelCells : List Value := [.int .i64 0, .int .i64 0, .nilFunc, .nilFunc, .int .i64 0, .int .i64 0, .int .i64 64, .func (.func 173) #[] #[], .func (.func 174) #[] #[], .int .i64 8192,
  .int .i64 0, .int .i64 0, .nilFunc, .nilFunc, .int .i64 0, .int .i64 (-1), .int .i64 1572864, .func (.func 175) #[] #[], .func (.func 176) #[] #[], .int .i64 402653184]
def H0 : AHeap := [.cells false 5 kernelCells, .cells false 1 [], .cells false 1 []]
def E0 : Env := List.replicate 68 undef
end Go.Lq

namespace Go.Lq
open Go

def E1 : Env :=
  [(.bool false), (.tuple #[]), (.tuple #[]), (.tuple #[]), (.tuple #[]), (.tuple #[]), (.tuple #[]), (.tuple #[]), (.tuple #[]), (.tuple #[]), (.tuple #[]), (.tuple #[]), (.tuple #[]), (.tuple #[]), (.tuple #[]), (.tuple #[]), (.tuple #[]), (.tuple #[]), (.tuple #[]), (.tuple #[]), (.tuple #[]), (.tuple #[]), (.tuple #[]), (.tuple #[]), (.tuple #[]), (.tuple #[]), (.tuple #[]), (.tuple #[]), (.tuple #[]), (.tuple #[]), (.tuple #[]), (.tuple #[]), (.tuple #[]), (.tuple #[]), (.tuple #[]), (.tuple #[]), (.tuple #[]), (.tuple #[]), (.tuple #[]), (.tuple #[]), (.tuple #[]), (.tuple #[]), (.tuple #[]), (.tuple #[]), (.tuple #[]), (.tuple #[]), (.tuple #[]), (.tuple #[]), (.tuple #[]), (.tuple #[]), (.tuple #[]), (.tuple #[]), (.tuple #[]), (.tuple #[]), (.tuple #[]), (.tuple #[]), (.tuple #[]), (.tuple #[]), (.tuple #[]), (.tuple #[]), (.tuple #[]), (.tuple #[]), (.tuple #[]), (.tuple #[]), (.tuple #[]), (.tuple #[]), (.tuple #[]), (.tuple #[])]
def H1 : AHeap :=
  [(.cells false 5 [(.int .i64 0), (.int .i64 0), .nilFunc, .nilFunc, (.int .i64 0), (.int .i64 0), (.int .i64 64), (.func (.func 173) #[] #[]), (.func (.func 174) #[] #[]), (.int .i64 8192), (.int .i64 0), (.int .i64 0), .nilFunc, .nilFunc, (.int .i64 0), (.int .i64 (-1)), (.int .i64 1572864), (.func (.func 175) #[] #[]), (.func (.func 176) #[] #[]), (.int .i64 402653184)]), (.cells false 1 []), (.cells false 1 [])]
def E2 : Env :=
  [(.bool false), (.int .i64 22609920), (.int .i64 1572864), (.int .i64 0), (.tuple #[]), (.tuple #[]), (.tuple #[]), (.tuple #[]), (.tuple #[]), (.tuple #[]), (.tuple #[(.int .i64 22609920), (.int .i64 1572864), (.int .i64 0)]), (.slice (some ⟨3, 0, none⟩) 4 4), (.tuple #[(.int .i64 22609920), (.int .i64 1572864), (.int .i64 0)]), (.int .i64 22609920), (.int .i64 1572864), (.int .i64 0), (.tuple #[]), (.tuple #[]), (.tuple #[]), (.tuple #[]), (.tuple #[]), (.tuple #[]), (.tuple #[]), (.tuple #[]), (.tuple #[]), (.tuple #[]), (.tuple #[]), (.tuple #[]), (.tuple #[]), (.tuple #[]), (.tuple #[]), (.tuple #[]), (.tuple #[]), (.tuple #[]), (.tuple #[]), (.tuple #[]), (.tuple #[]), (.tuple #[]), (.tuple #[]), (.tuple #[]), (.tuple #[]), (.tuple #[]), (.tuple #[]), (.tuple #[]), (.tuple #[]), (.tuple #[]), (.tuple #[]), (.tuple #[]), (.tuple #[]), (.tuple #[]), (.tuple #[]), (.tuple #[]), (.tuple #[]), (.tuple #[]), (.tuple #[]), (.tuple #[]), (.tuple #[]), (.tuple #[]), (.tuple #[]), (.tuple #[]), (.tuple #[]), (.tuple #[]), (.tuple #[]), (.tuple #[]), (.tuple #[]), (.tuple #[]), (.tuple #[]), (.tuple #[])]
def H2 : AHeap :=
  [(.cells false 5 [(.int .i64 0), (.int .i64 0), .nilFunc, .nilFunc, (.int .i64 0), (.int .i64 0), (.int .i64 64), (.func (.func 173) #[] #[]), (.func (.func 174) #[] #[]), (.int .i64 8192), (.int .i64 0), (.int .i64 0), .nilFunc, .nilFunc, (.int .i64 0), (.int .i64 (-1)), (.int .i64 1572864), (.func (.func 175) #[] #[]), (.func (.func 176) #[] #[]), (.int .i64 402653184)]), (.cells false 1 []), (.cells false 1 []), (.cells true 1 [(.int .i64 0), (.int .i64 10), (.int .i64 20), (.int .i64 40)])]
def E3 : Env :=
  [(.bool false), (.int .i64 22609920), (.int .i64 1572864), (.int .i64 0), (.slice (some ⟨7, 0, none⟩) 9 9), (.int .i64 0), (.tuple #[]), (.tuple #[]), (.tuple #[]), (.tuple #[]), (.tuple #[(.int .i64 22609920), (.int .i64 1572864), (.int .i64 0)]), (.slice (some ⟨3, 0, none⟩) 4 4), (.tuple #[(.int .i64 22609920), (.int .i64 1572864), (.int .i64 0)]), (.int .i64 22609920), (.int .i64 1572864), (.int .i64 0), (.tuple #[(.slice (some ⟨7, 0, none⟩) 9 9), (.int .i64 0)]), (.agg #[(.slice (some ⟨5, 0, none⟩) 3 3)]), (.agg #[(.int .i64 1), (.int .i64 1), (.int .i64 0), (.int .i64 0), (.int .i64 5), (.slice (some ⟨5, 0, none⟩) 3 3)]), (.slice (some ⟨6, 0, none⟩) 4 4), (.tuple #[(.slice (some ⟨7, 0, none⟩) 9 9), (.int .i64 0)]), (.slice (some ⟨7, 0, none⟩) 9 9), (.int .i64 0), (.tuple #[]), (.tuple #[]), (.tuple #[]), (.tuple #[]), (.tuple #[]), (.tuple #[]), (.tuple #[]), (.tuple #[]), (.tuple #[]), (.tuple #[]), (.tuple #[]), (.tuple #[]), (.tuple #[]), (.tuple #[]), (.tuple #[]), (.tuple #[]), (.tuple #[]), (.tuple #[]), (.tuple #[]), (.tuple #[]), (.tuple #[]), (.tuple #[]), (.tuple #[]), (.tuple #[]), (.tuple #[]), (.tuple #[]), (.tuple #[]), (.tuple #[]), (.tuple #[]), (.tuple #[]), (.tuple #[]), (.tuple #[]), (.tuple #[]), (.tuple #[]), (.tuple #[]), (.tuple #[]), (.tuple #[]), (.tuple #[]), (.tuple #[]), (.tuple #[]), (.tuple #[]), (.tuple #[]), (.tuple #[]), (.tuple #[]), (.tuple #[])]
def H3 : AHeap :=
  [(.cells false 5 [(.int .i64 0), (.int .i64 0), .nilFunc, .nilFunc, (.int .i64 0), (.int .i64 0), (.int .i64 64), (.func (.func 173) #[] #[]), (.func (.func 174) #[] #[]), (.int .i64 8192), (.int .i64 0), (.int .i64 0), .nilFunc, .nilFunc, (.int .i64 0), (.int .i64 (-1)), (.int .i64 1572864), (.func (.func 175) #[] #[]), (.func (.func 176) #[] #[]), (.int .i64 402653184)]), (.cells false 1 []), (.cells false 1 []), (.cells true 1 [(.int .i64 0), (.int .i64 10), (.int .i64 20), (.int .i64 40)]), (.cells true 0 [(.slice (some ⟨5, 0, none⟩) 3 3)]), (.cells true 2 [(.int .i64 0), (.int .i64 0), (.int .i64 2), (.int .i64 20), (.int .i64 3), (.int .i64 40)]), (.cells true 1 [(.int .i64 0), (.int .i64 10), (.int .i64 20), (.int .i64 40)]), (.cells true 1 [(.int .i64 0), (.int .i64 5), (.int .i64 10), (.int .i64 15), (.int .i64 20), (.int .i64 25), (.int .i64 30), (.int .i64 35), (.int .i64 40)])]
def E4 : Env :=
  [(.bool false), (.int .i64 22609920), (.int .i64 1572864), (.int .i64 0), (.slice (some ⟨7, 0, none⟩) 9 9), (.int .i64 0), (.pointer (some ⟨8, 0, none⟩)), (.int .i64 0), (.tuple #[]), (.tuple #[]), (.tuple #[(.int .i64 22609920), (.int .i64 1572864), (.int .i64 0)]), (.slice (some ⟨3, 0, none⟩) 4 4), (.tuple #[(.int .i64 22609920), (.int .i64 1572864), (.int .i64 0)]), (.int .i64 22609920), (.int .i64 1572864), (.int .i64 0), (.tuple #[(.slice (some ⟨7, 0, none⟩) 9 9), (.int .i64 0)]), (.agg #[(.slice (some ⟨5, 0, none⟩) 3 3)]), (.agg #[(.int .i64 1), (.int .i64 1), (.int .i64 0), (.int .i64 0), (.int .i64 5), (.slice (some ⟨5, 0, none⟩) 3 3)]), (.slice (some ⟨6, 0, none⟩) 4 4), (.tuple #[(.slice (some ⟨7, 0, none⟩) 9 9), (.int .i64 0)]), (.slice (some ⟨7, 0, none⟩) 9 9), (.int .i64 0), (.tuple #[(.agg #[(.int .i64 3), (.int .i64 128)]), (.int .i64 0)]), (.tuple #[(.agg #[(.int .i64 3), (.int .i64 128)]), (.int .i64 0)]), (.agg #[(.int .i64 3), (.int .i64 128)]), (.int .i64 0), (.tuple #[]), (.tuple #[]), (.tuple #[]), (.tuple #[]), (.tuple #[]), (.tuple #[]), (.tuple #[]), (.tuple #[]), (.tuple #[]), (.tuple #[]), (.tuple #[]), (.tuple #[]), (.tuple #[]), (.tuple #[]), (.tuple #[]), (.tuple #[]), (.tuple #[]), (.tuple #[]), (.tuple #[]), (.tuple #[]), (.tuple #[]), (.tuple #[]), (.tuple #[]), (.tuple #[]), (.tuple #[]), (.tuple #[]), (.tuple #[]), (.tuple #[]), (.tuple #[]), (.tuple #[]), (.tuple #[]), (.tuple #[]), (.tuple #[]), (.tuple #[]), (.tuple #[]), (.tuple #[]), (.tuple #[]), (.tuple #[]), (.tuple #[]), (.tuple #[]), (.tuple #[])]
def H4 : AHeap :=
  [(.cells false 5 [(.int .i64 0), (.int .i64 0), .nilFunc, .nilFunc, (.int .i64 0), (.int .i64 0), (.int .i64 64), (.func (.func 173) #[] #[]), (.func (.func 174) #[] #[]), (.int .i64 8192), (.int .i64 0), (.int .i64 0), .nilFunc, .nilFunc, (.int .i64 0), (.int .i64 (-1)), (.int .i64 1572864), (.func (.func 175) #[] #[]), (.func (.func 176) #[] #[]), (.int .i64 402653184)]), (.cells false 1 []), (.cells false 1 []), (.cells true 1 [(.int .i64 0), (.int .i64 10), (.int .i64 20), (.int .i64 40)]), (.cells true 0 [(.slice (some ⟨5, 0, none⟩) 3 3)]), (.cells true 2 [(.int .i64 0), (.int .i64 0), (.int .i64 2), (.int .i64 20), (.int .i64 3), (.int .i64 40)]), (.cells true 1 [(.int .i64 0), (.int .i64 10), (.int .i64 20), (.int .i64 40)]), (.cells true 1 [(.int .i64 0), (.int .i64 5), (.int .i64 10), (.int .i64 15), (.int .i64 20), (.int .i64 25), (.int .i64 30), (.int .i64 35), (.int .i64 40)]), (.cells true 0 [(.int .i64 3), (.int .i64 128)])]
def E5 : Env :=
  [(.bool false), (.int .i64 22609920), (.int .i64 1572864), (.int .i64 0), (.slice (some ⟨7, 0, none⟩) 9 9), (.int .i64 0), (.pointer (some ⟨8, 0, none⟩)), (.int .i64 0), (.int .i64 200), (.int .i64 0), (.tuple #[(.int .i64 22609920), (.int .i64 1572864), (.int .i64 0)]), (.slice (some ⟨3, 0, none⟩) 4 4), (.tuple #[(.int .i64 22609920), (.int .i64 1572864), (.int .i64 0)]), (.int .i64 22609920), (.int .i64 1572864), (.int .i64 0), (.tuple #[(.slice (some ⟨7, 0, none⟩) 9 9), (.int .i64 0)]), (.agg #[(.slice (some ⟨5, 0, none⟩) 3 3)]), (.agg #[(.int .i64 1), (.int .i64 1), (.int .i64 0), (.int .i64 0), (.int .i64 5), (.slice (some ⟨5, 0, none⟩) 3 3)]), (.slice (some ⟨6, 0, none⟩) 4 4), (.tuple #[(.slice (some ⟨7, 0, none⟩) 9 9), (.int .i64 0)]), (.slice (some ⟨7, 0, none⟩) 9 9), (.int .i64 0), (.tuple #[(.agg #[(.int .i64 3), (.int .i64 128)]), (.int .i64 0)]), (.tuple #[(.agg #[(.int .i64 3), (.int .i64 128)]), (.int .i64 0)]), (.agg #[(.int .i64 3), (.int .i64 128)]), (.int .i64 0), (.tuple #[(.int .i64 200), (.int .i64 0)]), (.agg #[(.int .i64 1), (.int .i64 0), (.int .i64 2)]), (.tuple #[(.int .i64 200), (.int .i64 0)]), (.int .i64 200), (.int .i64 0), (.tuple #[]), (.tuple #[]), (.tuple #[]), (.tuple #[]), (.tuple #[]), (.tuple #[]), (.tuple #[]), (.tuple #[]), (.tuple #[]), (.tuple #[]), (.tuple #[]), (.tuple #[]), (.tuple #[]), (.tuple #[]), (.tuple #[]), (.tuple #[]), (.tuple #[]), (.tuple #[]), (.tuple #[]), (.tuple #[]), (.tuple #[]), (.tuple #[]), (.tuple #[]), (.tuple #[]), (.tuple #[]), (.tuple #[]), (.tuple #[]), (.tuple #[]), (.tuple #[]), (.tuple #[]), (.tuple #[]), (.tuple #[]), (.tuple #[]), (.tuple #[]), (.tuple #[]), (.tuple #[])]
def H5 : AHeap :=
  [(.cells false 5 [(.int .i64 0), (.int .i64 0), .nilFunc, .nilFunc, (.int .i64 0), (.int .i64 0), (.int .i64 64), (.func (.func 173) #[] #[]), (.func (.func 174) #[] #[]), (.int .i64 8192), (.int .i64 0), (.int .i64 0), .nilFunc, .nilFunc, (.int .i64 0), (.int .i64 (-1)), (.int .i64 1572864), (.func (.func 175) #[] #[]), (.func (.func 176) #[] #[]), (.int .i64 402653184)]), (.cells false 1 []), (.cells false 1 []), (.cells true 1 [(.int .i64 0), (.int .i64 10), (.int .i64 20), (.int .i64 40)]), (.cells true 0 [(.slice (some ⟨5, 0, none⟩) 3 3)]), (.cells true 2 [(.int .i64 0), (.int .i64 0), (.int .i64 2), (.int .i64 20), (.int .i64 3), (.int .i64 40)]), (.cells true 1 [(.int .i64 0), (.int .i64 10), (.int .i64 20), (.int .i64 40)]), (.cells true 1 [(.int .i64 0), (.int .i64 5), (.int .i64 10), (.int .i64 15), (.int .i64 20), (.int .i64 25), (.int .i64 30), (.int .i64 35), (.int .i64 40)]), (.cells true 0 [(.int .i64 3), (.int .i64 128)])]
def E6 : Env :=
  [(.bool true), (.int .i64 22609920), (.int .i64 1572864), (.int .i64 0), (.slice (some ⟨7, 0, none⟩) 9 9), (.int .i64 0), (.pointer (some ⟨8, 0, none⟩)), (.int .i64 0), (.int .i64 200), (.int .i64 0), (.tuple #[(.int .i64 22609920), (.int .i64 1572864), (.int .i64 0)]), (.slice (some ⟨3, 0, none⟩) 4 4), (.tuple #[(.int .i64 22609920), (.int .i64 1572864), (.int .i64 0)]), (.int .i64 22609920), (.int .i64 1572864), (.int .i64 0), (.tuple #[(.slice (some ⟨7, 0, none⟩) 9 9), (.int .i64 0)]), (.agg #[(.slice (some ⟨5, 0, none⟩) 3 3)]), (.agg #[(.int .i64 1), (.int .i64 1), (.int .i64 0), (.int .i64 0), (.int .i64 5), (.slice (some ⟨5, 0, none⟩) 3 3)]), (.slice (some ⟨6, 0, none⟩) 4 4), (.tuple #[(.slice (some ⟨7, 0, none⟩) 9 9), (.int .i64 0)]), (.slice (some ⟨7, 0, none⟩) 9 9), (.int .i64 0), (.tuple #[(.agg #[(.int .i64 3), (.int .i64 128)]), (.int .i64 0)]), (.tuple #[(.agg #[(.int .i64 3), (.int .i64 128)]), (.int .i64 0)]), (.agg #[(.int .i64 3), (.int .i64 128)]), (.int .i64 0), (.tuple #[(.int .i64 200), (.int .i64 0)]), (.agg #[(.int .i64 1), (.int .i64 0), (.int .i64 2)]), (.tuple #[(.int .i64 200), (.int .i64 0)]), (.int .i64 200), (.int .i64 0), (.int .i64 0), (.bool true), (.bool true), (.int .i64 22609920), (.bool true), (.bool true), (.bool true), (.int .i64 1572864), (.bool true), (.bool true), (.bool true), (.int .i64 0), (.bool true), (.bool true), (.bool true), (.slice (some ⟨7, 0, none⟩) 9 9), (.slice (some ⟨9, 0, none⟩) 9 9), (.bool true), (.bool true), (.bool true), (.int .i64 0), (.bool true), (.bool true), (.bool true), (.agg #[(.int .i64 3), (.int .i64 128)]), (.agg #[(.int .i64 3), (.int .i64 128)]), (.bool true), (.bool true), (.bool true), (.int .i64 0), (.bool true), (.bool true), (.bool true), (.int .i64 200), (.bool true), (.bool true)]
def H6 : AHeap :=
  [(.cells false 5 [(.int .i64 0), (.int .i64 0), .nilFunc, .nilFunc, (.int .i64 0), (.int .i64 0), (.int .i64 64), (.func (.func 173) #[] #[]), (.func (.func 174) #[] #[]), (.int .i64 8192), (.int .i64 0), (.int .i64 0), .nilFunc, .nilFunc, (.int .i64 0), (.int .i64 (-1)), (.int .i64 1572864), (.func (.func 175) #[] #[]), (.func (.func 176) #[] #[]), (.int .i64 402653184)]), (.cells false 1 []), (.cells false 1 []), (.cells true 1 [(.int .i64 0), (.int .i64 10), (.int .i64 20), (.int .i64 40)]), (.cells true 0 [(.slice (some ⟨5, 0, none⟩) 3 3)]), (.cells true 2 [(.int .i64 0), (.int .i64 0), (.int .i64 2), (.int .i64 20), (.int .i64 3), (.int .i64 40)]), (.cells true 1 [(.int .i64 0), (.int .i64 10), (.int .i64 20), (.int .i64 40)]), (.cells true 1 [(.int .i64 0), (.int .i64 5), (.int .i64 10), (.int .i64 15), (.int .i64 20), (.int .i64 25), (.int .i64 30), (.int .i64 35), (.int .i64 40)]), (.cells true 0 [(.int .i64 3), (.int .i64 128)]), (.cells true 1 [(.int .i64 0), (.int .i64 5), (.int .i64 10), (.int .i64 15), (.int .i64 20), (.int .i64 25), (.int .i64 30), (.int .i64 35), (.int .i64 40)])]
theorem awake0 : run TA colO 2000 (.code (nth 0 R20.code) none E0) H0 = some (.normal, E1, H1, 1000000000000) := by kernel_rfl
theorem awake1 : run TA colO 2000 (.code (nth 1 R20.code) none E1) H1 = some (.normal, E2, H2, 1000000000000) := by kernel_rfl
theorem awake2 : run TA colO 2000 (.code (nth 2 R20.code) none E2) H2 = some (.normal, E3, H3, 4) := by kernel_rfl
theorem awake3 : run TA colO 2000 (.code (nth 3 R20.code) none E3) H3 = some (.normal, E4, H4, 8) := by kernel_rfl
theorem awake4 : run TA colO 2000 (.code (nth 4 R20.code) none E4) H4 = some (.normal, E5, H5, 1000000000000) := by kernel_rfl
theorem awake5 : run TA colO 2000 (.code (nth 5 R20.code) none E5) H5 = some (.normal, E6, H6, 1000000000000) := by kernel_rfl
end Go.Lq

namespace Go.Lq
open Go

theorem soundO : SoundO Go.Proofs.Tryd.prog colO := by
  intro fv args B v h N
  cases h

theorem awp_run {n : Nat} {c : RCode} {ar : Option Nat} {e e' : Env} {H H' : AHeap} {x : AExit} {lo : Nat} {Q : AExit → Env → AHeap → Prop}
    (h : run TA colO n (.code c ar e) H = some (x, e', H', lo)) (k : Q x e' H') : AWP Go.Proofs.Tryd.prog ar c Q e H :=
  CodeSound.awp (run_sound mo soundTA soundO n _ _ _ _ _ _ h).2 k

theorem awake0_c : ACall Go.Proofs.Tryd.prog 20 [] H0 fun v H => v = .bool true ∧ H = H0 := by
  refine ACall.drop (.bool _) ?_
  refine a20 ?_
  show AWP _ _ _ _ E0 H0
  refine awp_seq (awp_run awake0 ?_)
  refine awp_seq (awp_run awake1 ?_)
  refine awp_seq (awp_run awake2 ?_)
  refine awp_seq (awp_run awake3 ?_)
  refine awp_seq (awp_run awake4 ?_)
  refine awp_seq (awp_run awake5 ?_)
  refine awp_ret ?_
  refine fin_1 ⟨rfl, ?_⟩
  exact ⟨H6.drop 3, rfl⟩

theorem own0 : OwnHeap H0 := by
  intro i x hx
  match i with
  | 0 =>
    simp only [H0, List.getElem?_cons_zero, Option.some.injEq] at hx
    subst hx
    intro v hv
    simp only [kernelCells, List.mem_cons, List.not_mem_nil, or_false] at hv
    rcases hv with rfl | rfl | rfl | rfl | rfl | rfl | rfl | rfl | rfl | rfl | rfl | rfl | rfl | rfl | rfl | rfl | rfl | rfl | rfl | rfl <;> first | exact .int _ _ | exact fn_ren _ _ _ | constructor
  | 1 => simp only [H0, List.getElem?_cons_succ, List.getElem?_cons_zero, Option.some.injEq] at hx; subst hx; intro v hv; cases hv
  | 2 => simp only [H0, List.getElem?_cons_succ, List.getElem?_cons_zero, Option.some.injEq] at hx; subst hx; intro v hv; cases hv
  | i + 3 => simp [H0] at hx

theorem globals_size : Go.Proofs.Tryd.prog.globals.size = 3 := by kernel_rfl

/-- The examples of the document hold, wherever the kernels lie as they lie at the start. -/
theorem awake_c {H : AHeap} (h : Ext H0 H) : ACall Go.Proofs.Tryd.prog 20 [] H fun v H' => v = .bool true ∧ H' = H := by
  obtain ⟨M, rfl⟩ := h
  exact ACall.frame (by rw [globals_size]; decide) own0 (fun x hx => by cases hx) (.bool _) awake0_c M
end Go.Lq

namespace Go.Lq
open Go Go.ChangeShapes Go.WideShapes Go.ChangeAt Go.RowKit
open Go.Proofs

theorem own_knob : ownKnob Tryd.prog.godebug = none := by kernel_rfl
theorem laid_out : laidOutB Tryd.prog = true := by kernel_rfl
theorem gKernels : Tryd.prog.globalNamed "lacquer/resample.kernels" = some 0 := by kernel_rfl
theorem tKernels : (Tryd.prog.globals[0]?).map (·.type) = some 136 := by kernel_rfl
def laidAll : List (String × DataW Unit) := [("lacquer/resample.kernels", YtlcfgealkjomnaaDoor.Rows.laid_lacquer_resample_kernels)]

/-- The door's own heap meets the condition. -/
theorem door_met (os : Os) (args : Array Value) : laidMetH Tryd.prog laidAll ((World.doorLaid Tryd.prog 400 os).forCall (fun _ _ => 0) ⟨#[], args, []⟩).memory :=
  laidMetH_of_parts3 (fuel := 8) (laidMet_of_run' 8 (by kernel_rfl) (by kernel_rfl)) (by kernel_rfl) (by kernel_rfl)

theorem door_shaped (os : Os) (args : Array Value) : ((World.doorLaid Tryd.prog 400 os).forCall (fun _ _ => 0) ⟨#[], args, []⟩).Shaped Tryd.prog := World.shaped_of_RefB (by kernel_rfl) (by kernel_rfl)

def fnTab : List (List UInt8 × FuncId) := [("lacquer/resample.linear".toUTF8.data.toList, 173), ("lacquer/resample.kernels$1".toUTF8.data.toList, 174),
  ("lacquer/resample.cubic".toUTF8.data.toList, 175), ("lacquer/resample.kernels$2".toUTF8.data.toList, 176)]
theorem fnTab_ok : tabOk Tryd.prog fnTab = true := by kernel_rfl

theorem looks0 : false = Tryd.prog.looks [] := by kernel_rfl
theorem may_enter : Tryd.prog.mayEnter = true := by kernel_rfl
theorem stops_heard : Tryd.prog.stopsHeard = true := by kernel_rfl
theorem maps_rowed : mapsRowed Tryd.prog = true := by kernel_rfl
theorem main_is : Tryd.prog.mainIs = some (true, "9403e86e1dc287bd0cb4ee71274230f6f4c5733d4f08721e5e779bfd75daaf91".toList) := by kernel_rfl

/-- What lies in a variable's block. -/
theorem glob_block {W : World} (hsh : W.ShapedOpen Tryd.prog) {g : Nat} (hg : g < Tryd.prog.globals.size) (h0 : (((begin Tryd.prog (fun _ _ => 0) default).world.heap[g]?).bind Obj.row?).isSome = true) : ∃ cs t, W.heap[g]? = some (.cells cs t) := by
  obtain ⟨⟨zero, t⟩, e⟩ := Option.isSome_iff_exists.1 h0
  obtain ⟨cs, h, _⟩ := hsh.1 g zero t hg e
  exact ⟨cs, t, h⟩

/-- What the condition gives. -/
theorem of_laid {W : World} (h : laidMetH Tryd.prog laidAll W) (hsh : W.ShapedOpen Tryd.prog) : Laid W [⟨0, 0, 0⟩, ⟨1, 0, 0⟩, ⟨2, 0, 0⟩] H0 := by
  obtain ⟨g0, t0, cs0, f0, p0, hg0, ht0, hv0, hd0⟩ := h.funcs (List.mem_singleton.2 rfl)
  obtain rfl := Option.some.inj (gKernels.symm.trans hg0)
  obtain rfl := Option.some.inj (tKernels.symm.trans ht0)
  have hcs := flatF_of fnTab_ok 5 _ _ _ _ hd0 (by kernel_rfl) (by kernel_rfl)
  obtain ⟨c1, t1, k1⟩ := glob_block (g := 1) hsh (by rw [globals_size]; decide) (by kernel_rfl)
  obtain ⟨c2, t2, k2⟩ := glob_block (g := 2) hsh (by rw [globals_size]; decide) (by kernel_rfl)
  unfold World.var? at hv0
  rw [gKernels] at hv0
  simp only [Option.bind_some] at hv0
  split at hv0
  · rename_i cs t fz hh
    cases hv0
    have b0 : Laid W [⟨0, 0, 0⟩] [.cells false 5 kernelCells] := (Laid.none W).push (p := ⟨0, 0, 0⟩) (esz := 5) hh fun k v hk => ⟨v, by
      have e : cs0.toList = kernelCells := hcs.symm.trans (by kernel_rfl)
      rw [Nat.zero_add, ← hk, ← e]; simp, by
      have hm := List.mem_of_getElem? hk
      simp only [kernelCells, List.mem_cons, List.not_mem_nil, or_false] at hm
      rcases hm with rfl | rfl | rfl | rfl | rfl | rfl | rfl | rfl | rfl | rfl | rfl | rfl | rfl | rfl | rfl | rfl | rfl | rfl | rfl | rfl <;> first | exact .int _ _ | exact fn_vr _ _ | constructor⟩
    exact (b0.blank k1 1 0).blank k2 1 0
  · cases hv0

theorem globs : Tryd.prog.globals.size ≤ H0.length := by rw [globals_size]; decide
theorem glob_at : ∀ g, g < Tryd.prog.globals.size → ∃ r, ([⟨0, 0, 0⟩, ⟨1, 0, 0⟩, ⟨2, 0, 0⟩] : List ALoc)[g]? = some ⟨g, 0, r⟩ := fun g hg => by
  rw [globals_size] at hg
  match g, hg with
  | 0, _ => exact ⟨0, rfl⟩
  | 1, _ => exact ⟨0, rfl⟩
  | 2, _ => exact ⟨0, rfl⟩
end Go.Lq

namespace Go.Lq
open Go Go.ChangeShapes Go.WideShapes Go.ChangeAt Go.RowKit
open Go.Proofs
theorem lifts_final : Tryd.prog.liftsFinal = YtlcfgealkjomnaaDoor.Rows.resampleFiltersRow.lifted := by kernel_rfl
theorem make_is : Tryd.prog.make = some YtlcfgealkjomnaaDoor.Rows.resampleFiltersRow.make := by kernel_rfl
end Go.Lq

namespace Go.Lq
open Go

section
variable {H : AHeap}

/-- The first error. -/
def firstErr (l : List Int) : Int := (l.find? (fun e => decide (e ≠ 0))).getD 0

theorem firstErr_nil : firstErr [] = 0 := rfl
theorem firstErr_z (l : List Int) : firstErr (0 :: l) = firstErr l := by simp [firstErr]
theorem firstErr_e {e : Int} (h : e ≠ 0) (l : List Int) : firstErr (e :: l) = e := by simp [firstErr, h]
theorem ite_tt {α : Type} (a b : α) : (if true = true then a else b) = a := rfl
theorem ite_ft {α : Type} (a b : α) : (if false = true then a else b) = b := rfl
attribute [go_sem] firstErr_nil firstErr_z firstErr_e ite_tt ite_ft if_true if_false

end
end Go.Lq

namespace Go.Lq
open Go

section
variable {H : AHeap}

theorem copyInts_c {l : List Int} {v : Value} (hl : Ints H l v) (hb : l.length ≤ 1000000000) :
    ACall Go.Proofs.Tryd.prog 25 [v] H fun v H1 => v = .slice (some ⟨H.length, 0, none⟩) l.length l.length ∧ H1 = H ++ [.cells true 1 (l.map (.int .i64))] := by
  refine ACall.tidyE (f := id) (sz := 1) (n := l.length) (vs := l.map (.int .i64)) wraps_id (closed_ints l) ?_
  (refine a25 ?_; simp only [n25, List.replicate, List.length_cons, List.length_nil, List.cons_append, List.nil_append])
  rcases hl with ⟨h1, h2⟩
  rcases h2 with ⟨rfl, hn⟩ | ⟨id, off, c, rfl, hc⟩
  · have : l = [] := List.length_eq_zero_iff.1 hn
    subst this
    have ha : appendA 1 8 (H ++ [.cells true 1 []]) (.slice (some ⟨H.length, 0, none⟩) 0 0) (.slice none 0 0) = some (.slice (some ⟨H.length, 0, none⟩) 0 0, H ++ [.cells true 1 []]) := rfl
    ((repeat (first | refine q1 ?_ | refine q2 ?_ | refine q3 ?_ | refine q4 ?_ | refine q5 ?_ | refine q6 ?_ | refine q7 ?_ | refine q8 ?_ | refine q9 ?_ | refine qa ?_ | refine qb ?_ | refine qc ?_ | refine qd ?_ | refine qe (by decide) ?_ | refine qf ?_ | refine qg ?_ | ((first | apply aops_all | apply adraw_all); (simp (disch := first | exact List.all_nil | omega | (simp only [go_sem]; done) | (simp only [ln, List.length_map]; omega) | (repeat' first | assumption | exact Ext.refl _ | refine Ext.app ?_ _)) only [go_sem, ha]; rfl)))); (try ((first | apply aops_until | apply adraw_until); (simp (disch := first | exact List.all_nil | omega | (simp only [go_sem]; done) | (simp only [ln, List.length_map]; omega) | (repeat' first | assumption | exact Ext.refl _ | refine Ext.app ?_ _)) only [go_sem, ha]; rfl))))
    exact fin_1 ⟨_, H.length, rfl, ⟨_, rfl⟩, rfl, Nat.le_refl _, by simp⟩
  · by_cases hn : l.length = 0
    · have : l = [] := List.length_eq_zero_iff.1 hn
      subst this
      have ha : appendA 1 8 (H ++ [.cells true 1 []]) (.slice (some ⟨H.length, 0, none⟩) 0 0) (.slice (some ⟨id, off, none⟩) ([] : List Int).length c) = some (.slice (some ⟨H.length, 0, none⟩) 0 0, H ++ [.cells true 1 []]) := rfl
      ((repeat (first | refine q1 ?_ | refine q2 ?_ | refine q3 ?_ | refine q4 ?_ | refine q5 ?_ | refine q6 ?_ | refine q7 ?_ | refine q8 ?_ | refine q9 ?_ | refine qa ?_ | refine qb ?_ | refine qc ?_ | refine qd ?_ | refine qe (by decide) ?_ | refine qf ?_ | refine qg ?_ | ((first | apply aops_all | apply adraw_all); (simp (disch := first | exact List.all_nil | omega | (simp only [go_sem]; done) | (simp only [ln, List.length_map]; omega) | (repeat' first | assumption | exact Ext.refl _ | refine Ext.app ?_ _)) only [go_sem, ha]; rfl)))); (try ((first | apply aops_until | apply adraw_until); (simp (disch := first | exact List.all_nil | omega | (simp only [go_sem]; done) | (simp only [ln, List.length_map]; omega) | (repeat' first | assumption | exact Ext.refl _ | refine Ext.app ?_ _)) only [go_sem, ha]; rfl))))
      exact fin_1 ⟨_, H.length, rfl, ⟨_, rfl⟩, rfl, Nat.le_refl _, by simp⟩
    · have ha : appendA 1 8 (H ++ [.cells true 1 []]) (.slice (some ⟨H.length, 0, none⟩) 0 0) (.slice (some ⟨id, off, none⟩) l.length c) =
          some (.slice (some ⟨(H ++ [AObj.cells true 1 []]).length, 0, none⟩) l.length l.length, (H ++ [.cells true 1 []]) ++ [.cells true 1 (l.map (.int .i64))]) := by
        obtain ⟨k, hk⟩ : ∃ k, l.length = k + 1 := ⟨l.length - 1, by omega⟩
        have hc' := cellsAt_ext ⟨[AObj.cells true 1 []], rfl⟩ (hc (by omega))
        have hr : roomOk 8 (0 + l.length) = true := roomOk_of (by omega) (by omega)
        rw [hk] at hc' hr ⊢
        simp only [appendA, hc', isAtom_ints, hr, and_self, if_true]
      ((repeat (first | refine q1 ?_ | refine q2 ?_ | refine q3 ?_ | refine q4 ?_ | refine q5 ?_ | refine q6 ?_ | refine q7 ?_ | refine q8 ?_ | refine q9 ?_ | refine qa ?_ | refine qb ?_ | refine qc ?_ | refine qd ?_ | refine qe (by decide) ?_ | refine qf ?_ | refine qg ?_ | ((first | apply aops_all | apply adraw_all); (simp (disch := first | exact List.all_nil | omega | (simp only [go_sem]; done) | (simp only [ln, List.length_map]; omega) | (repeat' first | assumption | exact Ext.refl _ | refine Ext.app ?_ _)) only [go_sem, ha]; rfl)))); (try ((first | apply aops_until | apply adraw_until); (simp (disch := first | exact List.all_nil | omega | (simp only [go_sem]; done) | (simp only [ln, List.length_map]; omega) | (repeat' first | assumption | exact Ext.refl _ | refine Ext.app ?_ _)) only [go_sem, ha]; rfl))))
      refine fin_1 ?_
      exact ⟨_, (H ++ [AObj.cells true 1 []]).length, rfl, ⟨_, List.append_assoc _ _ _⟩, rfl, by simp, by simp⟩

theorem bints_c {a b : List Int} {va vb : Value} (ha : Ints H a va) (hb : Ints H b vb) (hl : a.length ≤ 1000000000) (_ : b.length ≤ 1000000000) : ACall Go.Proofs.Tryd.prog 27 [va, vb] H fun v H' => v = .bool (decide (a = b)) ∧ H' = H := by
  (refine a27 ?_; simp only [n27, List.replicate, List.length_cons, List.length_nil, List.cons_append, List.nil_append])
  ((repeat (first | refine q1 ?_ | refine q2 ?_ | refine q3 ?_ | refine q4 ?_ | refine q5 ?_ | refine q6 ?_ | refine q7 ?_ | refine q8 ?_ | refine q9 ?_ | refine qa ?_ | refine qb ?_ | refine qc ?_ | refine qd ?_ | refine qe (by decide) ?_ | refine qf ?_ | refine qg ?_ | ((first | apply aops_all | apply adraw_all); (simp (disch := first | exact List.all_nil | omega | (simp only [go_sem]; done) | (simp only [ln, List.length_map]; omega) | (repeat' first | assumption | exact Ext.refl _ | refine Ext.app ?_ _)) only [go_sem, ha.len, ha.idx, ha.load, hb.len, hb.idx, hb.load]; rfl)))); (try ((first | apply aops_until | apply adraw_until); (simp (disch := first | exact List.all_nil | omega | (simp only [go_sem]; done) | (simp only [ln, List.length_map]; omega) | (repeat' first | assumption | exact Ext.refl _ | refine Ext.app ?_ _)) only [go_sem, ha.len, ha.idx, ha.load, hb.len, hb.idx, hb.load]; rfl))))
  refine cond_p rfl (fun hlt => ?_) (fun hge => ?_)
  · ((repeat (first | refine q1 ?_ | refine q2 ?_ | refine q3 ?_ | refine q4 ?_ | refine q5 ?_ | refine q6 ?_ | refine q7 ?_ | refine q8 ?_ | refine q9 ?_ | refine qa ?_ | refine qb ?_ | refine qc ?_ | refine qd ?_ | refine qe (by decide) ?_ | refine qf ?_ | refine qg ?_ | ((first | apply aops_all | apply adraw_all); (simp (disch := first | exact List.all_nil | omega | (simp only [go_sem]; done) | (simp only [ln, List.length_map]; omega) | (repeat' first | assumption | exact Ext.refl _ | refine Ext.app ?_ _)) only [go_sem]; rfl)))); (try ((first | apply aops_until | apply adraw_until); (simp (disch := first | exact List.all_nil | omega | (simp only [go_sem]; done) | (simp only [ln, List.length_map]; omega) | (repeat' first | assumption | exact Ext.refl _ | refine Ext.app ?_ _)) only [go_sem]; rfl))))
    refine fin_1 ⟨?_, rfl⟩
    have : a ≠ b := fun h => hlt (by rw [h])
    simp [this]
  · ((repeat (first | refine q1 ?_ | refine q2 ?_ | refine q3 ?_ | refine q4 ?_ | refine q5 ?_ | refine q6 ?_ | refine q7 ?_ | refine q8 ?_ | refine q9 ?_ | refine qa ?_ | refine qb ?_ | refine qc ?_ | refine qd ?_ | refine qe (by decide) ?_ | refine qf ?_ | refine qg ?_ | ((first | apply aops_all | apply adraw_all); (simp (disch := first | exact List.all_nil | omega | (simp only [go_sem]; done) | (simp only [ln, List.length_map]; omega) | (repeat' first | assumption | exact Ext.refl _ | refine Ext.app ?_ _)) only [go_sem]; rfl)))); (try ((first | apply aops_until | apply adraw_until); (simp (disch := first | exact List.all_nil | omega | (simp only [go_sem]; done) | (simp only [ln, List.length_map]; omega) | (repeat' first | assumption | exact Ext.refl _ | refine Ext.app ?_ _)) only [go_sem]; rfl))))
    have hlen : a.length = b.length := by omega
    refine awp_loop_n [true, true, false, false, false, true, false, false, false, false, false, false, false, false, false, false, false, false, false, false, false, false, false, false, false, false] a.length (fun i e H' => H' = H ∧ e = [va, vb, junk, junk, junk, .int .i64 i, junk, junk, junk, junk, junk, junk, junk, junk, junk, junk, junk, junk, junk, junk, junk, junk, junk, junk, junk, junk] ∧ ∀ j < i, a.getD j 0 = b.getD j 0) ?_ ?_
    · exact ⟨rfl, rfl, by omega⟩
    · rintro i e H' hi ⟨rfl, rfl, hp⟩
      ((repeat (first | refine q1 ?_ | refine q2 ?_ | refine q3 ?_ | refine q4 ?_ | refine q5 ?_ | refine q6 ?_ | refine q7 ?_ | refine q8 ?_ | refine q9 ?_ | refine qa ?_ | refine qb ?_ | refine qc ?_ | refine qd ?_ | refine qe (by decide) ?_ | refine qf ?_ | refine qg ?_ | ((first | apply aops_all | apply adraw_all); (simp (disch := first | exact List.all_nil | omega | (simp only [go_sem]; done) | (simp only [ln, List.length_map]; omega) | (repeat' first | assumption | exact Ext.refl _ | refine Ext.app ?_ _)) only [go_sem, ha.len, ha.idx, ha.load, hb.len, hb.idx, hb.load]; rfl)))); (try ((first | apply aops_until | apply adraw_until); (simp (disch := first | exact List.all_nil | omega | (simp only [go_sem]; done) | (simp only [ln, List.length_map]; omega) | (repeat' first | assumption | exact Ext.refl _ | refine Ext.app ?_ _)) only [go_sem, ha.len, ha.idx, ha.load, hb.len, hb.idx, hb.load]; rfl))))
      refine cond_p rfl (fun hlt => ?_) (fun hge => ?_)
      · ((repeat (first | refine q1 ?_ | refine q2 ?_ | refine q3 ?_ | refine q4 ?_ | refine q5 ?_ | refine q6 ?_ | refine q7 ?_ | refine q8 ?_ | refine q9 ?_ | refine qa ?_ | refine qb ?_ | refine qc ?_ | refine qd ?_ | refine qe (by decide) ?_ | refine qf ?_ | refine qg ?_ | ((first | apply aops_all | apply adraw_all); (simp (disch := first | exact List.all_nil | omega | (simp only [go_sem]; done) | (simp only [ln, List.length_map]; omega) | (repeat' first | assumption | exact Ext.refl _ | refine Ext.app ?_ _)) only [go_sem, ha.len, ha.idx, ha.load, hb.len, hb.idx, hb.load]; rfl)))); (try ((first | apply aops_until | apply adraw_until); (simp (disch := first | exact List.all_nil | omega | (simp only [go_sem]; done) | (simp only [ln, List.length_map]; omega) | (repeat' first | assumption | exact Ext.refl _ | refine Ext.app ?_ _)) only [go_sem, ha.len, ha.idx, ha.load, hb.len, hb.idx, hb.load]; rfl))))
        refine cond_p rfl (fun hne => ?_) (fun heq => ?_)
        · ((repeat (first | refine q1 ?_ | refine q2 ?_ | refine q3 ?_ | refine q4 ?_ | refine q5 ?_ | refine q6 ?_ | refine q7 ?_ | refine q8 ?_ | refine q9 ?_ | refine qa ?_ | refine qb ?_ | refine qc ?_ | refine qd ?_ | refine qe (by decide) ?_ | refine qf ?_ | refine qg ?_ | ((first | apply aops_all | apply adraw_all); (simp (disch := first | exact List.all_nil | omega | (simp only [go_sem]; done) | (simp only [ln, List.length_map]; omega) | (repeat' first | assumption | exact Ext.refl _ | refine Ext.app ?_ _)) only [go_sem]; rfl)))); (try ((first | apply aops_until | apply adraw_until); (simp (disch := first | exact List.all_nil | omega | (simp only [go_sem]; done) | (simp only [ln, List.length_map]; omega) | (repeat' first | assumption | exact Ext.refl _ | refine Ext.app ?_ _)) only [go_sem]; rfl))))
          refine fin_1 ⟨?_, rfl⟩
          have : a ≠ b := fun h => hne (by rw [h])
          simp [this]
        · ((repeat (first | refine q1 ?_ | refine q2 ?_ | refine q3 ?_ | refine q4 ?_ | refine q5 ?_ | refine q6 ?_ | refine q7 ?_ | refine q8 ?_ | refine q9 ?_ | refine qa ?_ | refine qb ?_ | refine qc ?_ | refine qd ?_ | refine qe (by decide) ?_ | refine qf ?_ | refine qg ?_ | ((first | apply aops_all | apply adraw_all); (simp (disch := first | exact List.all_nil | omega | (simp only [go_sem]; done) | (simp only [ln, List.length_map]; omega) | (repeat' first | assumption | exact Ext.refl _ | refine Ext.app ?_ _)) only [go_sem]; rfl)))); (try ((first | apply aops_until | apply adraw_until); (simp (disch := first | exact List.all_nil | omega | (simp only [go_sem]; done) | (simp only [ln, List.length_map]; omega) | (repeat' first | assumption | exact Ext.refl _ | refine Ext.app ?_ _)) only [go_sem]; rfl))))
          refine ⟨by omega, rfl, by simp [forget], fun j hj => ?_⟩
          by_cases h : j = i
          · subst h; simpa using heq
          · exact hp j (by omega)
      · ((repeat (first | refine q1 ?_ | refine q2 ?_ | refine q3 ?_ | refine q4 ?_ | refine q5 ?_ | refine q6 ?_ | refine q7 ?_ | refine q8 ?_ | refine q9 ?_ | refine qa ?_ | refine qb ?_ | refine qc ?_ | refine qd ?_ | refine qe (by decide) ?_ | refine qf ?_ | refine qg ?_ | ((first | apply aops_all | apply adraw_all); (simp (disch := first | exact List.all_nil | omega | (simp only [go_sem]; done) | (simp only [ln, List.length_map]; omega) | (repeat' first | assumption | exact Ext.refl _ | refine Ext.app ?_ _)) only [go_sem]; rfl)))); (try ((first | apply aops_until | apply adraw_until); (simp (disch := first | exact List.all_nil | omega | (simp only [go_sem]; done) | (simp only [ln, List.length_map]; omega) | (repeat' first | assumption | exact Ext.refl _ | refine Ext.app ?_ _)) only [go_sem]; rfl))))
        refine fin_1 ⟨?_, rfl⟩
        have : a = b := ext_getD (d := 0) hlen fun j hj => hp j (by omega)
        simp [this]
end
end Go.Lq

namespace Go.Lq
open Go
open Go.Proofs
variable {H : AHeap}

theorem store_at2v {id e : Nat} {x y a b : Value} (h : H[id]? = some (.cells true e [x, y])) (ha : isAtom a = true) (hb : isAtom b = true) : storeR 2 (.pointer (some ⟨id, 0, none⟩)) (.agg ⟨[a, b]⟩) H = some (undef, H.set id (.cells true e [a, b])) := by
  have e1 : (Value.agg ⟨[a, b]⟩).cells = ⟨[a, b]⟩ := rfl
  have e2 : ([a, b] : List Value).all isAtom = true := by simp [ha, hb]
  have e3 : setCells [x, y] 0 [a, b] = [a, b] := rfl
  simp only [storeR, e1, List.size_toArray, storeAt, h, e2, e3, and_true, List.length_cons, List.length_nil]
  rfl
theorem fillA_two {a b x y : Value} (ha : isAtom a = true) (hb : isAtom b = true) : fillA [x, y] [(0, 2, .agg ⟨[a, b]⟩)] = some [a, b] := by
  have e1 : (Value.agg ⟨[a, b]⟩).cells = ⟨[a, b]⟩ := rfl
  have e2 : ([a, b] : List Value).all isAtom = true := by simp [ha, hb]
  simp only [fillA, e1, List.size_toArray, e2, List.length_cons, List.length_nil]
  rfl
end Go.Lq

namespace Go.Lq

theorem mul_abs {x y : Int} {a b : Nat} (hx : -(a : Int) ≤ x ∧ x ≤ a) (hy : -(b : Int) ≤ y ∧ y ≤ b) : -((a * b : Nat) : Int) ≤ x * y ∧ x * y ≤ ((a * b : Nat) : Int) := by
  have h := Nat.mul_le_mul (show x.natAbs ≤ a by omega) (show y.natAbs ≤ b by omega)
  rw [← Int.natAbs_mul] at h
  omega
theorem floor_neg {n b : Int} (hb : 0 < b) : -((b - 1 - n) / b) = n / b := by
  have h1 := Int.mul_ediv_add_emod n b
  have h2 := Int.emod_nonneg n (show b ≠ 0 by omega)
  have h3 := Int.emod_lt_of_pos n hb
  have e : b - 1 - n = (b - 1 - n % b) + b * (-(n / b)) := by rw [Int.mul_neg]; omega
  rw [e, Int.add_mul_ediv_left _ _ (by omega), Int.ediv_eq_zero_of_lt (by omega) (by omega)]
  omega
theorem ediv_bound {n b : Int} {m : Nat} (hb : 0 < b) (h : -(m : Int) ≤ n ∧ n ≤ m) : -(m : Int) ≤ n / b ∧ n / b ≤ m := by
  constructor
  · refine Int.le_ediv_of_mul_le hb ?_
    have : (-(m : Int)) * b ≤ -(m : Int) * 1 := Int.mul_le_mul_of_nonpos_left (by omega) (by omega)
    omega
  · by_cases hn : 0 ≤ n
    · exact Int.le_trans (Int.ediv_le_self _ hn) h.2
    · have := Int.ediv_neg_of_neg_of_pos (show n < 0 by omega) hb
      omega

/-- The sum of a filter at n, of its first coefficients. -/
def sumTo (c x : List Int) (n : Nat) : Nat → Int
  | 0 => 0
  | j + 1 => sumTo c x n j + (if j ≤ n then c.getD j 0 * x.getD (n - j) 0 else 0)
def sumAt (c x : List Int) (n : Nat) : Int := sumTo c x n c.length
def filtL (c x : List Int) (d : Int) : List Int := (List.range x.length).map fun n => sumAt c x n / d
theorem sumTo_bound {c x : List Int} {n a b : Nat} (hc : ∀ i : Nat, -(a : Int) ≤ c.getD i 0 ∧ c.getD i 0 ≤ a) (hx : ∀ i : Nat, -(b : Int) ≤ x.getD i 0 ∧ x.getD i 0 ≤ b) : ∀ j : Nat, -((a * b * j : Nat) : Int) ≤ sumTo c x n j ∧ sumTo c x n j ≤ ((a * b * j : Nat) : Int)
  | 0 => by simp [sumTo]
  | j + 1 => by
    have ih := sumTo_bound (n := n) hc hx j
    have := mul_abs (hc j) (hx (n - j))
    unfold sumTo
    rw [Nat.mul_add, Nat.mul_one]
    generalize a * b * j = u at *
    generalize a * b = w at *
    split <;> omega
theorem sumTo_past {c x : List Int} {n : Nat} : ∀ {j k : Nat}, n < j → sumTo c x n (j + k) = sumTo c x n j
  | j, 0, _ => rfl
  | j, k + 1, h => by
    rw [← Nat.add_assoc]
    show sumTo c x n (j + k) + (if j + k ≤ n then _ else 0) = _
    rw [if_neg (by omega), Int.add_zero, sumTo_past h]

def filterErrL (c : List Int) (d : Int) : Int := if c.length = 0 then 10 else if 8 < c.length then 8 else if c.all (fun n => decide (-1000 ≤ n ∧ n ≤ 1000)) = true ∧ (1 ≤ d ∧ d ≤ 1000) then 0 else 2
def signalErrL (x : List Int) : Int := if 400 < x.length then 8 else if x.all (fun n => decide (-32767 ≤ n ∧ n ≤ 32767)) = true then 0 else 2
theorem all_sized {m : Int} {l : List Int} (hm : 0 ≤ m) (h : l.all (fun n => decide (-m ≤ n ∧ n ≤ m)) = true) (i : Nat) : -m ≤ l.getD i 0 ∧ l.getD i 0 ≤ m := by
  by_cases hi : i < l.length
  · simpa using all_getD (d := 0) h hi
  · rw [List.getD_eq_getElem?_getD, List.getElem?_eq_none (by omega)]
    simp; omega
theorem filterErr_ok {c : List Int} {d : Int} (h : filterErrL c d = 0) : 0 < c.length ∧ c.length ≤ 8 ∧ (∀ i : Nat, -1000 ≤ c.getD i 0 ∧ c.getD i 0 ≤ 1000) ∧ 1 ≤ d ∧ d ≤ 1000 := by
  unfold filterErrL at h
  split at h
  · cases h
  · split at h
    · cases h
    · split at h
      · rename_i h1 h2 h3
        exact ⟨by omega, by omega, all_sized (by decide) h3.1, h3.2.1, h3.2.2⟩
      · cases h
theorem signalErr_ok {x : List Int} (h : signalErrL x = 0) : x.length ≤ 400 ∧ ∀ i : Nat, -32767 ≤ x.getD i 0 ∧ x.getD i 0 ≤ 32767 := by
  unfold signalErrL at h
  split at h
  · cases h
  · split at h
    · rename_i h1 h2; exact ⟨by omega, all_sized (by decide) h2⟩
    · cases h
def filteredL (c : List Int) (d : Int) (x : List Int) : List Int × Int :=
  if filterErrL c d = 0 then (if signalErrL x = 0 then (filtL c x d, 0) else ([], signalErrL x)) else ([], filterErrL c d)

/-- What an equalizer adds after two outputs. -/
def addedI (f s d a b : Int) : Int := (f * a + s * b) / d
/-- The output of an equalizer, from two outputs on; none where it grows too great. -/
def eqGo (f s d : Int) : Int → Int → List Int → Option (List Int)
  | _, _, [] => some []
  | a, b, x :: t => if -1000000000000000 ≤ x + addedI f s d a b ∧ x + addedI f s d a b ≤ 1000000000000000 then (eqGo f s d (x + addedI f s d a b) a t).map (fun r => (x + addedI f s d a b) :: r) else none
def unGo (f s d : Int) : Int → Int → List Int → List Int
  | _, _, [] => []
  | a, b, y :: t => (y - addedI f s d a b) :: unGo f s d y a t
/-- The output is taken back to the input. -/
theorem unGo_eqGo {f s d : Int} : ∀ {x y : List Int} {a b : Int}, eqGo f s d a b x = some y → unGo f s d a b y = x
  | [], y, a, b, h => by cases h; rfl
  | x :: t, y, a, b, h => by
    unfold eqGo at h
    split at h
    · obtain ⟨y', h1, rfl⟩ := Option.map_eq_some_iff.1 h
      rw [unGo, unGo_eqGo h1]
      congr 1
      omega
    · cases h
theorem eqGo_unGo {f s d : Int} : ∀ {y : List Int} {a b : Int}, (∀ n ∈ y, -1000000000000000 ≤ n ∧ n ≤ 1000000000000000) → eqGo f s d a b (unGo f s d a b y) = some y
  | [], a, b, _ => rfl
  | y :: t, a, b, h => by
    rw [unGo, eqGo]
    have e : y - addedI f s d a b + addedI f s d a b = y := by omega
    rw [e, if_pos (h y (by simp)), eqGo_unGo fun n hn => h n (by simp [hn])]
    rfl
theorem eqGo_len {f s d : Int} : ∀ {x y : List Int} {a b : Int}, eqGo f s d a b x = some y → y.length = x.length
  | [], y, a, b, h => by cases h; rfl
  | x :: t, y, a, b, h => by
    unfold eqGo at h
    split at h
    · obtain ⟨y', h1, rfl⟩ := Option.map_eq_some_iff.1 h
      simp [eqGo_len h1]
    · cases h
/-- Equal beginnings have equal beginnings. -/
theorem eqGo_take {f s d : Int} : ∀ {x y : List Int} {a b : Int} (k : Nat), eqGo f s d a b x = some y → eqGo f s d a b (x.take k) = some (y.take k)
  | [], y, a, b, k, h => by cases h; simp [eqGo]
  | x :: t, y, a, b, 0, h => by simp [eqGo]
  | x :: t, y, a, b, k + 1, h => by
    unfold eqGo at h
    split at h
    · rename_i hb
      obtain ⟨y', h1, rfl⟩ := Option.map_eq_some_iff.1 h
      rw [List.take_succ_cons, List.take_succ_cons, eqGo, if_pos hb, eqGo_take k h1]
      rfl
    · cases h
/-- What is bounded stays so. -/
theorem eqGo_bound {f s d : Int} {amp B : Nat} (hd : 0 < d) (hh : (amp : Int) * d + ((f.natAbs + s.natAbs : Nat) : Int) * B ≤ d * B) (hB : (B : Int) ≤ 1000000000000000) :
    ∀ {x : List Int} {a b : Int}, (-(B : Int) ≤ a ∧ a ≤ B) → (-(B : Int) ≤ b ∧ b ≤ B) → (∀ n ∈ x, -(amp : Int) ≤ n ∧ n ≤ amp) → ∃ y, eqGo f s d a b x = some y ∧ ∀ n ∈ y, -(B : Int) ≤ n ∧ n ≤ B
  | [], a, b, _, _, _ => ⟨[], rfl, by simp⟩
  | x :: t, a, b, ha, hb, hx => by
    have h1 := mul_abs (a := f.natAbs) (x := f) (by omega) ha
    have h2 := mul_abs (a := s.natAbs) (x := s) (by omega) hb
    have hxx := hx x (by simp)
    have key : -(B : Int) ≤ x + addedI f s d a b ∧ x + addedI f s d a b ≤ B := by
      unfold addedI
      have h3 : f * a + s * b ≤ ((f.natAbs + s.natAbs : Nat) : Int) * B := by
        rw [Int.natCast_add, Int.add_mul, ← Int.natCast_mul, ← Int.natCast_mul]; omega
      have h4 : -(((f.natAbs + s.natAbs : Nat) : Int) * B) ≤ f * a + s * b := by
        rw [Int.natCast_add, Int.add_mul, ← Int.natCast_mul, ← Int.natCast_mul]; omega
      generalize f * a + s * b = u at *
      generalize ((f.natAbs + s.natAbs : Nat) : Int) * B = w at *
      have e1 : d * ((B : Int) - amp) = d * B - amp * d := by rw [Int.mul_sub, Int.mul_comm d amp]
      have e2 : d * (-(B : Int) + amp) = -(d * B) + amp * d := by rw [Int.mul_add, Int.mul_comm d amp, Int.mul_neg]
      have h5 : u / d ≤ (B : Int) - amp := by
        have := Int.ediv_le_ediv hd (show u ≤ d * ((B : Int) - amp) by omega)
        rwa [Int.mul_ediv_cancel_left _ (by omega)] at this
      have h6 : -(B : Int) + amp ≤ u / d := by
        have := Int.ediv_le_ediv hd (show d * (-(B : Int) + amp) ≤ u by omega)
        rwa [Int.mul_ediv_cancel_left _ (by omega)] at this
      omega
    obtain ⟨y, hy, hyb⟩ := eqGo_bound hd hh hB key ha (x := t) (fun n hn => hx n (List.mem_cons_of_mem _ hn))
    refine ⟨(x + addedI f s d a b) :: y, ?_, fun n hn => ?_⟩
    · rw [eqGo, if_pos (by omega), hy]; rfl
    · rcases List.mem_cons.1 hn with h | hn
      · rw [h]; exact key
      · exact hyb n hn
end Go.Lq

namespace Go.Lq

/-- What a bound must hold. -/
def holdsB (s d amp b : Int) : Prop := amp - (-(s * b)) / d ≤ b
instance (s d amp b : Int) : Decidable (holdsB s d amp b) := inferInstanceAs (Decidable (_ ≤ _))
def stableW (s d amp : Int) : Int := -((-(amp * d)) / (d - s))
theorem holds_iff {s d amp b : Int} (hd : 0 < d) : holdsB s d amp b ↔ amp * d + s * b ≤ d * b := by
  unfold holdsB
  have h := Int.le_ediv_iff_mul_le hd (a := amp - b) (b := -(s * b))
  have e : (amp - b) * d = amp * d - d * b := by rw [Int.sub_mul, Int.mul_comm b d]
  rw [e] at h
  constructor
  · intro h1; have := h.1 (by omega); omega
  · intro h1; have := h.2 (by omega); omega
theorem holds_stable {s d amp b : Int} (hd : 0 < d) (hs : s < d) : holdsB s d amp b ↔ stableW s d amp ≤ b := by
  rw [holds_iff hd]
  unfold stableW
  have h := Int.le_ediv_iff_mul_le (show 0 < d - s by omega) (a := -b) (b := -(amp * d))
  have e : -b * (d - s) = s * b - d * b := by rw [Int.mul_sub, Int.neg_mul, Int.neg_mul, Int.mul_comm b d, Int.mul_comm b s]; omega
  rw [e] at h
  constructor
  · intro h1; have := h.2 (by omega); omega
  · intro h1; have := h.1 (by omega); omega
theorem stableW_nn {s d amp : Int} (ha : 0 ≤ amp) (hd : 0 < d) (hs : s < d) : 0 ≤ stableW s d amp := by
  unfold stableW
  have h1 := Int.mul_nonneg ha (Int.le_of_lt hd)
  have h2 := Int.ediv_le_ediv (show 0 < d - s by omega) (show -(amp * d) ≤ (d - s) * 0 by omega)
  rw [Int.mul_ediv_cancel_left _ (by omega)] at h2
  omega
theorem stableW_le {s d amp : Int} (ha : 0 ≤ amp ∧ amp ≤ 32767) (hd : 1 ≤ d ∧ d ≤ 1000) (hs : s < d) : stableW s d amp ≤ 32767000 := by
  unfold stableW
  have h1 := mul_abs (x := amp) (y := d) (a := 32767) (b := 1000) ⟨by omega, by omega⟩ ⟨by omega, by omega⟩
  have h2 := ediv_bound (n := -(amp * d)) (b := d - s) (m := 32767000) (by omega) ⟨by omega, by omega⟩
  omega

/-- Size, sign. -/
def szI (n : Int) : Int := max n (-n)
def sgI (n : Int) : Int := if n < 0 then -1 else if 0 < n then 1 else 0
theorem mul_sg (n : Int) : n * sgI n = szI n := by
  unfold sgI szI
  split
  · omega
  · split <;> omega
theorem sg_bound (n : Int) : -1 ≤ sgI n ∧ sgI n ≤ 1 := by unfold sgI; split; omega; split <;> omega

def strTo (c : List Int) : Nat → Int
  | 0 => 0
  | j + 1 => strTo c j + szI (c.getD j 0)
def strL (c : List Int) : Int := strTo c c.length
theorem strTo_bound {c : List Int} {a : Nat} (hc : ∀ i : Nat, -(a : Int) ≤ c.getD i 0 ∧ c.getD i 0 ≤ a) : ∀ j : Nat, 0 ≤ strTo c j ∧ strTo c j ≤ ((a * j : Nat) : Int)
  | 0 => by simp [strTo]
  | j + 1 => by
    have ih := strTo_bound hc j
    have := hc j
    unfold strTo szI
    rw [Nat.mul_add, Nat.mul_one]
    omega
def worstL (c : List Int) (amp : Int) : List Int := (c.map fun k => amp * sgI k).reverse
theorem worstL_len (c : List Int) (amp : Int) : (worstL c amp).length = c.length := by simp [worstL]
theorem worstL_getD {c : List Int} {amp : Int} {k : Nat} (h : k < c.length) : (worstL c amp).getD (c.length - 1 - k) 0 = amp * sgI (c.getD k 0) := by
  unfold worstL
  rw [List.getD_eq_getElem?_getD, List.getElem?_reverse (by simp; omega), List.length_map, show c.length - 1 - (c.length - 1 - k) = k by omega, List.getElem?_map, List.getD_eq_getElem?_getD, List.getElem?_eq_getElem h]
  rfl
theorem sumTo_str {c x : List Int} {n : Nat} {M : Int} (hM : 0 ≤ M) (hx : ∀ i : Nat, -M ≤ x.getD i 0 ∧ x.getD i 0 ≤ M) : ∀ j : Nat, -(strTo c j * M) ≤ sumTo c x n j ∧ sumTo c x n j ≤ strTo c j * M
  | 0 => by simp [sumTo, strTo]
  | j + 1 => by
    have ih := sumTo_str (c := c) (n := n) hM hx j
    obtain ⟨m, rfl⟩ : ∃ m : Nat, M = m := ⟨M.toNat, by omega⟩
    have h1 := mul_abs (x := c.getD j 0) (y := x.getD (n - j) 0) (a := (c.getD j 0).natAbs) (b := m) (by omega) (hx (n - j))
    have e : szI (c.getD j 0) = ((c.getD j 0).natAbs : Int) := by unfold szI; omega
    unfold sumTo strTo
    rw [Int.add_mul, e, ← Int.natCast_mul]
    split
    · omega
    · have : 0 ≤ (((c.getD j 0).natAbs * m : Nat) : Int) := Int.natCast_nonneg _
      omega
theorem sumTo_worst {c : List Int} {amp : Int} : ∀ j, j ≤ c.length → sumTo c (worstL c amp) (c.length - 1) j = strTo c j * amp
  | 0, _ => by simp [sumTo, strTo]
  | j + 1, h => by
    have ih := sumTo_worst (c := c) (amp := amp) j (by omega)
    unfold sumTo strTo
    rw [if_pos (by omega), worstL_getD (by omega), ih, Int.add_mul, ← mul_sg, Int.mul_comm amp, Int.mul_assoc]

/-- A fraction in lowest terms. -/
def gcdI (a b : Int) : Int := (Int.gcd a b : Int)
def lowF (n d : Int) : Int × Int := (n / gcdI n d, d / gcdI n d)
theorem gcdI_pos {n d : Int} (hd : 0 < d) : 0 < gcdI n d := by
  unfold gcdI
  have := Int.gcd_pos_of_ne_zero_right n (show d ≠ 0 by omega)
  omega
theorem lowF_mul {n d : Int} : gcdI n d * (lowF n d).1 = n ∧ gcdI n d * (lowF n d).2 = d :=
  ⟨Int.mul_ediv_cancel' (Int.gcd_dvd_left ..), Int.mul_ediv_cancel' (Int.gcd_dvd_right ..)⟩
theorem lowF_pos {n d : Int} (hd : 0 < d) : 0 < (lowF n d).2 := by
  have h1 := gcdI_pos (n := n) hd
  have h2 := (lowF_mul (n := n) (d := d)).2
  rcases Int.lt_trichotomy (lowF n d).2 0 with h | h | h
  · have := Int.mul_neg_of_pos_of_neg h1 h; omega
  · rw [h, Int.mul_zero] at h2; omega
  · exact h
theorem lowF_div {n d : Int} (hd : 0 < d) : (lowF n d).1 / (lowF n d).2 = n / d := by
  have h1 := gcdI_pos (n := n) hd
  have h2 := Int.mul_ediv_mul_of_pos (lowF n d).1 (lowF n d).2 h1
  rw [lowF_mul.1, lowF_mul.2] at h2
  exact h2.symm
theorem lowF_gcd {n d : Int} (hd : 0 < d) : gcdI (lowF n d).1 (lowF n d).2 = 1 := by
  have h1 := gcdI_pos (n := n) hd
  have h2 : Int.gcd (gcdI n d * (lowF n d).1) (gcdI n d * (lowF n d).2) = (gcdI n d).natAbs * Int.gcd (lowF n d).1 (lowF n d).2 := Int.gcd_mul_left ..
  rw [lowF_mul.1, lowF_mul.2] at h2
  unfold gcdI at h1 h2 ⊢
  rw [Int.natAbs_natCast] at h2
  have h3 : Int.gcd n d * Int.gcd (lowF n d).1 (lowF n d).2 = Int.gcd n d * 1 := by omega
  have h4 := Nat.eq_of_mul_eq_mul_left (show 0 < Int.gcd n d by omega) h3
  omega
end Go.Lq

namespace Go.Lq
open Go
open Go.Proofs

theorem Ints.atom {H : AHeap} {l : List Int} {v : Value} (h : Ints H l v) : isAtom v = true := by
  rcases h.2 with ⟨rfl, _⟩ | ⟨id, off, c, rfl, _⟩ <;> rfl
theorem Ints.box2 {H : AHeap} {l : List Int} {v : Value} {n : Int} (h : Ints H l v) {H' : AHeap} : boxR (.agg ⟨[v, .int .i64 n]⟩) H' = some (.pointer (some ⟨H'.length, 0, none⟩), H' ++ [.cells true 0 [v, .int .i64 n]]) :=
  box_agg (by simp [h.atom, isAtom_int])
theorem n2_at {G : AHeap} {id : Nat} {a b : Value} (h : G[id]? = some (.cells true 0 [a, b])) : loadNR 2 (.pointer (some ⟨id, 0, none⟩)) G = some (.agg ⟨[a, b]⟩, G) := loadN_at h (by simp)
theorem any_not (l : List Int) (p : Int → Bool) : (l.any fun n => !p n) = !l.all p := by rw [← List.not_all_eq_any_not]
theorem fill2v {x y a : Value} {b : Int} (ha : isAtom a = true) : fillA [x, y] [(0, 1, a), (1, 1, .int .i64 b)] = some [a, .int .i64 b] := by
  have e : a.cells = ⟨[a]⟩ := by cases a <;> first | rfl | cases ha
  have h1 : fillA [x, y] [(0, 1, a), (1, 1, .int .i64 b)] = fillA [a, y] [(1, 1, .int .i64 b)] := by
    conv => lhs; unfold fillA
    rw [e, if_pos ⟨rfl, by simp, by simp [ha]⟩]
    rfl
  rw [h1, fillA_int (by simp)]
  rfl

section
variable {H : AHeap}
theorem rfloor_c (n b : Int) (hb : 0 < b ∧ b ≤ 1000000000000) (hn : -4000000000000000000 ≤ n ∧ n ≤ 4000000000000000000) :
    ACall Go.Proofs.Tryd.prog 91 [.int .i64 n, .int .i64 b] H fun v H' => v = .int .i64 (n / b) ∧ H' = H := by
  have hq := ediv_bound (n := n) (b := b) (m := 4000000000000000000) hb.1 ⟨by omega, by omega⟩
  have f := floor_neg (n := n) hb.1
  (refine a91 ?_; simp only [n91, List.replicate, List.length_cons, List.length_nil, List.cons_append, List.nil_append])
  ((repeat (first | refine Go.Lq.q1 ?_ | refine Go.Lq.q2 ?_ | refine Go.Lq.q3 ?_ | refine Go.Lq.q4 ?_ | refine Go.Lq.q5 ?_ | refine Go.Lq.q6 ?_ | refine Go.Lq.q7 ?_ | refine Go.Lq.q8 ?_ | refine Go.Lq.q9 ?_ | refine Go.Lq.qa ?_ | refine Go.Lq.qb ?_ | refine Go.Lq.qc ?_ | refine Go.Lq.qd ?_ | refine Go.Lq.qe (by decide) ?_ | refine Go.Lq.qf ?_ | refine Go.Lq.qg ?_ | ((first | apply aops_all | apply adraw_all); (simp (disch := first | exact List.all_nil | omega | (simp only [go_sem]; done) | (simp only [ln, List.length_map]; omega) | (repeat' first | assumption | exact Ext.refl _ | refine Ext.app ?_ _)) only [go_sem]; rfl)))); (try ((first | apply aops_until | apply adraw_until); (simp (disch := first | exact List.all_nil | omega | (simp only [go_sem]; done) | (simp only [ln, List.length_map]; omega) | (repeat' first | assumption | exact Ext.refl _ | refine Ext.app ?_ _)) only [go_sem]; rfl))))
  refine cond_p rfl (fun hneg => ?_) (fun hpos => ?_)
  · have e : (b - 1 - n).tdiv b = (b - 1 - n) / b := Int.tdiv_eq_ediv_of_nonneg (by omega)
    ((repeat (first | refine Go.Lq.q1 ?_ | refine Go.Lq.q2 ?_ | refine Go.Lq.q3 ?_ | refine Go.Lq.q4 ?_ | refine Go.Lq.q5 ?_ | refine Go.Lq.q6 ?_ | refine Go.Lq.q7 ?_ | refine Go.Lq.q8 ?_ | refine Go.Lq.q9 ?_ | refine Go.Lq.qa ?_ | refine Go.Lq.qb ?_ | refine Go.Lq.qc ?_ | refine Go.Lq.qd ?_ | refine Go.Lq.qe (by decide) ?_ | refine Go.Lq.qf ?_ | refine Go.Lq.qg ?_ | ((first | apply aops_all | apply adraw_all); (simp (disch := first | exact List.all_nil | omega | (simp only [go_sem]; done) | (simp only [ln, List.length_map]; omega) | (repeat' first | assumption | exact Ext.refl _ | refine Ext.app ?_ _)) only [go_sem, e]; rfl)))); (try ((first | apply aops_until | apply adraw_until); (simp (disch := first | exact List.all_nil | omega | (simp only [go_sem]; done) | (simp only [ln, List.length_map]; omega) | (repeat' first | assumption | exact Ext.refl _ | refine Ext.app ?_ _)) only [go_sem, e]; rfl))))
    refine fin_1 ⟨?_, rfl⟩
    rw [← f]
    simp
  · have e : n.tdiv b = n / b := Int.tdiv_eq_ediv_of_nonneg (by omega)
    ((repeat (first | refine Go.Lq.q1 ?_ | refine Go.Lq.q2 ?_ | refine Go.Lq.q3 ?_ | refine Go.Lq.q4 ?_ | refine Go.Lq.q5 ?_ | refine Go.Lq.q6 ?_ | refine Go.Lq.q7 ?_ | refine Go.Lq.q8 ?_ | refine Go.Lq.q9 ?_ | refine Go.Lq.qa ?_ | refine Go.Lq.qb ?_ | refine Go.Lq.qc ?_ | refine Go.Lq.qd ?_ | refine Go.Lq.qe (by decide) ?_ | refine Go.Lq.qf ?_ | refine Go.Lq.qg ?_ | ((first | apply aops_all | apply adraw_all); (simp (disch := first | exact List.all_nil | omega | (simp only [go_sem]; done) | (simp only [ln, List.length_map]; omega) | (repeat' first | assumption | exact Ext.refl _ | refine Ext.app ?_ _)) only [go_sem, e]; rfl)))); (try ((first | apply aops_until | apply adraw_until); (simp (disch := first | exact List.all_nil | omega | (simp only [go_sem]; done) | (simp only [ln, List.length_map]; omega) | (repeat' first | assumption | exact Ext.refl _ | refine Ext.app ?_ _)) only [go_sem, e]; rfl))))
    exact fin_1 ⟨rfl, rfl⟩

theorem isWeight_c (n : Int) : ACall Go.Proofs.Tryd.prog 115 [.int .i64 n] H fun v H' => v = .bool (decide (-1000 ≤ n ∧ n ≤ 1000)) ∧ H' = H := by
  (refine a115 ?_; simp only [n115, List.replicate, List.length_cons, List.length_nil, List.cons_append, List.nil_append])
  ((repeat (first | refine Go.Lq.q1 ?_ | refine Go.Lq.q2 ?_ | refine Go.Lq.q3 ?_ | refine Go.Lq.q4 ?_ | refine Go.Lq.q5 ?_ | refine Go.Lq.q6 ?_ | refine Go.Lq.q7 ?_ | refine Go.Lq.q8 ?_ | refine Go.Lq.q9 ?_ | refine Go.Lq.qa ?_ | refine Go.Lq.qb ?_ | refine Go.Lq.qc ?_ | refine Go.Lq.qd ?_ | refine Go.Lq.qe (by decide) ?_ | refine Go.Lq.qf ?_ | refine Go.Lq.qg ?_ | ((first | apply aops_all | apply adraw_all); (simp (disch := first | exact List.all_nil | omega | (simp only [go_sem]; done) | (simp only [ln, List.length_map]; omega) | (repeat' first | assumption | exact Ext.refl _ | refine Ext.app ?_ _)) only [go_sem]; rfl)))); (try ((first | apply aops_until | apply adraw_until); (simp (disch := first | exact List.all_nil | omega | (simp only [go_sem]; done) | (simp only [ln, List.length_map]; omega) | (repeat' first | assumption | exact Ext.refl _ | refine Ext.app ?_ _)) only [go_sem]; rfl))))
  refine aops_call_to (isSized_c _ _ (by omega)) ?_
  ((repeat (first | refine Go.Lq.q1 ?_ | refine Go.Lq.q2 ?_ | refine Go.Lq.q3 ?_ | refine Go.Lq.q4 ?_ | refine Go.Lq.q5 ?_ | refine Go.Lq.q6 ?_ | refine Go.Lq.q7 ?_ | refine Go.Lq.q8 ?_ | refine Go.Lq.q9 ?_ | refine Go.Lq.qa ?_ | refine Go.Lq.qb ?_ | refine Go.Lq.qc ?_ | refine Go.Lq.qd ?_ | refine Go.Lq.qe (by decide) ?_ | refine Go.Lq.qf ?_ | refine Go.Lq.qg ?_ | ((first | apply aops_all | apply adraw_all); (simp (disch := first | exact List.all_nil | omega | (simp only [go_sem]; done) | (simp only [ln, List.length_map]; omega) | (repeat' first | assumption | exact Ext.refl _ | refine Ext.app ?_ _)) only [go_sem]; rfl)))); (try ((first | apply aops_until | apply adraw_until); (simp (disch := first | exact List.all_nil | omega | (simp only [go_sem]; done) | (simp only [ln, List.length_map]; omega) | (repeat' first | assumption | exact Ext.refl _ | refine Ext.app ?_ _)) only [go_sem]; rfl))))
  exact fin_1 ⟨rfl, rfl⟩
theorem isDen_c (n : Int) : ACall Go.Proofs.Tryd.prog 116 [.int .i64 n] H fun v H' => v = .bool (decide (1 ≤ n ∧ n ≤ 1000)) ∧ H' = H := by
  (refine a116 ?_; simp only [n116, List.replicate, List.length_cons, List.length_nil, List.cons_append, List.nil_append])
  ((repeat (first | refine Go.Lq.q1 ?_ | refine Go.Lq.q2 ?_ | refine Go.Lq.q3 ?_ | refine Go.Lq.q4 ?_ | refine Go.Lq.q5 ?_ | refine Go.Lq.q6 ?_ | refine Go.Lq.q7 ?_ | refine Go.Lq.q8 ?_ | refine Go.Lq.q9 ?_ | refine Go.Lq.qa ?_ | refine Go.Lq.qb ?_ | refine Go.Lq.qc ?_ | refine Go.Lq.qd ?_ | refine Go.Lq.qe (by decide) ?_ | refine Go.Lq.qf ?_ | refine Go.Lq.qg ?_ | ((first | apply aops_all | apply adraw_all); (simp (disch := first | exact List.all_nil | omega | (simp only [go_sem]; done) | (simp only [ln, List.length_map]; omega) | (repeat' first | assumption | exact Ext.refl _ | refine Ext.app ?_ _)) only [go_sem]; rfl)))); (try ((first | apply aops_until | apply adraw_until); (simp (disch := first | exact List.all_nil | omega | (simp only [go_sem]; done) | (simp only [ln, List.length_map]; omega) | (repeat' first | assumption | exact Ext.refl _ | refine Ext.app ?_ _)) only [go_sem]; rfl))))
  refine aops_call_to (within_c _ _ _) ?_
  ((repeat (first | refine Go.Lq.q1 ?_ | refine Go.Lq.q2 ?_ | refine Go.Lq.q3 ?_ | refine Go.Lq.q4 ?_ | refine Go.Lq.q5 ?_ | refine Go.Lq.q6 ?_ | refine Go.Lq.q7 ?_ | refine Go.Lq.q8 ?_ | refine Go.Lq.q9 ?_ | refine Go.Lq.qa ?_ | refine Go.Lq.qb ?_ | refine Go.Lq.qc ?_ | refine Go.Lq.qd ?_ | refine Go.Lq.qe (by decide) ?_ | refine Go.Lq.qf ?_ | refine Go.Lq.qg ?_ | ((first | apply aops_all | apply adraw_all); (simp (disch := first | exact List.all_nil | omega | (simp only [go_sem]; done) | (simp only [ln, List.length_map]; omega) | (repeat' first | assumption | exact Ext.refl _ | refine Ext.app ?_ _)) only [go_sem]; rfl)))); (try ((first | apply aops_until | apply adraw_until); (simp (disch := first | exact List.all_nil | omega | (simp only [go_sem]; done) | (simp only [ln, List.length_map]; omega) | (repeat' first | assumption | exact Ext.refl _ | refine Ext.app ?_ _)) only [go_sem]; rfl))))
  exact fin_1 ⟨rfl, rfl⟩
theorem checkFilter1_c : Asks (.func (.func 114) #[] #[]) (fun n => !decide (-1000 ≤ n ∧ n ≤ 1000)) := fun n H => by
  show ACall _ _ _ _ _
  (refine a114 ?_; simp only [n114, List.replicate, List.length_cons, List.length_nil, List.cons_append, List.nil_append])
  ((repeat (first | refine Go.Lq.q1 ?_ | refine Go.Lq.q2 ?_ | refine Go.Lq.q3 ?_ | refine Go.Lq.q4 ?_ | refine Go.Lq.q5 ?_ | refine Go.Lq.q6 ?_ | refine Go.Lq.q7 ?_ | refine Go.Lq.q8 ?_ | refine Go.Lq.q9 ?_ | refine Go.Lq.qa ?_ | refine Go.Lq.qb ?_ | refine Go.Lq.qc ?_ | refine Go.Lq.qd ?_ | refine Go.Lq.qe (by decide) ?_ | refine Go.Lq.qf ?_ | refine Go.Lq.qg ?_ | ((first | apply aops_all | apply adraw_all); (simp (disch := first | exact List.all_nil | omega | (simp only [go_sem]; done) | (simp only [ln, List.length_map]; omega) | (repeat' first | assumption | exact Ext.refl _ | refine Ext.app ?_ _)) only [go_sem]; rfl)))); (try ((first | apply aops_until | apply adraw_until); (simp (disch := first | exact List.all_nil | omega | (simp only [go_sem]; done) | (simp only [ln, List.length_map]; omega) | (repeat' first | assumption | exact Ext.refl _ | refine Ext.app ?_ _)) only [go_sem]; rfl))))
  refine aops_call_to (isWeight_c _) ?_
  ((repeat (first | refine Go.Lq.q1 ?_ | refine Go.Lq.q2 ?_ | refine Go.Lq.q3 ?_ | refine Go.Lq.q4 ?_ | refine Go.Lq.q5 ?_ | refine Go.Lq.q6 ?_ | refine Go.Lq.q7 ?_ | refine Go.Lq.q8 ?_ | refine Go.Lq.q9 ?_ | refine Go.Lq.qa ?_ | refine Go.Lq.qb ?_ | refine Go.Lq.qc ?_ | refine Go.Lq.qd ?_ | refine Go.Lq.qe (by decide) ?_ | refine Go.Lq.qf ?_ | refine Go.Lq.qg ?_ | ((first | apply aops_all | apply adraw_all); (simp (disch := first | exact List.all_nil | omega | (simp only [go_sem]; done) | (simp only [ln, List.length_map]; omega) | (repeat' first | assumption | exact Ext.refl _ | refine Ext.app ?_ _)) only [go_sem]; rfl)))); (try ((first | apply aops_until | apply adraw_until); (simp (disch := first | exact List.all_nil | omega | (simp only [go_sem]; done) | (simp only [ln, List.length_map]; omega) | (repeat' first | assumption | exact Ext.refl _ | refine Ext.app ?_ _)) only [go_sem]; rfl))))
  exact fin_1 ⟨rfl, rfl⟩
theorem signalErr1_c : Asks (.func (.func 131) #[] #[]) (fun n => !decide (-32767 ≤ n ∧ n ≤ 32767)) := fun n H => by
  show ACall _ _ _ _ _
  (refine a131 ?_; simp only [n131, List.replicate, List.length_cons, List.length_nil, List.cons_append, List.nil_append])
  ((repeat (first | refine Go.Lq.q1 ?_ | refine Go.Lq.q2 ?_ | refine Go.Lq.q3 ?_ | refine Go.Lq.q4 ?_ | refine Go.Lq.q5 ?_ | refine Go.Lq.q6 ?_ | refine Go.Lq.q7 ?_ | refine Go.Lq.q8 ?_ | refine Go.Lq.q9 ?_ | refine Go.Lq.qa ?_ | refine Go.Lq.qb ?_ | refine Go.Lq.qc ?_ | refine Go.Lq.qd ?_ | refine Go.Lq.qe (by decide) ?_ | refine Go.Lq.qf ?_ | refine Go.Lq.qg ?_ | ((first | apply aops_all | apply adraw_all); (simp (disch := first | exact List.all_nil | omega | (simp only [go_sem]; done) | (simp only [ln, List.length_map]; omega) | (repeat' first | assumption | exact Ext.refl _ | refine Ext.app ?_ _)) only [go_sem]; rfl)))); (try ((first | apply aops_until | apply adraw_until); (simp (disch := first | exact List.all_nil | omega | (simp only [go_sem]; done) | (simp only [ln, List.length_map]; omega) | (repeat' first | assumption | exact Ext.refl _ | refine Ext.app ?_ _)) only [go_sem]; rfl))))
  refine aops_call_to (isSized_c _ _ (by omega)) ?_
  ((repeat (first | refine Go.Lq.q1 ?_ | refine Go.Lq.q2 ?_ | refine Go.Lq.q3 ?_ | refine Go.Lq.q4 ?_ | refine Go.Lq.q5 ?_ | refine Go.Lq.q6 ?_ | refine Go.Lq.q7 ?_ | refine Go.Lq.q8 ?_ | refine Go.Lq.q9 ?_ | refine Go.Lq.qa ?_ | refine Go.Lq.qb ?_ | refine Go.Lq.qc ?_ | refine Go.Lq.qd ?_ | refine Go.Lq.qe (by decide) ?_ | refine Go.Lq.qf ?_ | refine Go.Lq.qg ?_ | ((first | apply aops_all | apply adraw_all); (simp (disch := first | exact List.all_nil | omega | (simp only [go_sem]; done) | (simp only [ln, List.length_map]; omega) | (repeat' first | assumption | exact Ext.refl _ | refine Ext.app ?_ _)) only [go_sem]; rfl)))); (try ((first | apply aops_until | apply adraw_until); (simp (disch := first | exact List.all_nil | omega | (simp only [go_sem]; done) | (simp only [ln, List.length_map]; omega) | (repeat' first | assumption | exact Ext.refl _ | refine Ext.app ?_ _)) only [go_sem]; rfl))))
  exact fin_1 ⟨rfl, rfl⟩
theorem signalErr_c {x : List Int} {v : Value} (hx : Ints H x v) (hb : x.length ≤ 1000000000) : ACall Go.Proofs.Tryd.prog 89 [v] H fun v H' => v = .int .i64 (signalErrL x) ∧ H' = H := by
  refine ACall.drop (.int _ _) ?_
  (refine a89 ?_; simp only [n89, List.replicate, List.length_cons, List.length_nil, List.cons_append, List.nil_append])
  ((repeat (first | refine Go.Lq.q1 ?_ | refine Go.Lq.q2 ?_ | refine Go.Lq.q3 ?_ | refine Go.Lq.q4 ?_ | refine Go.Lq.q5 ?_ | refine Go.Lq.q6 ?_ | refine Go.Lq.q7 ?_ | refine Go.Lq.q8 ?_ | refine Go.Lq.q9 ?_ | refine Go.Lq.qa ?_ | refine Go.Lq.qb ?_ | refine Go.Lq.qc ?_ | refine Go.Lq.qd ?_ | refine Go.Lq.qe (by decide) ?_ | refine Go.Lq.qf ?_ | refine Go.Lq.qg ?_ | ((first | apply aops_all | apply adraw_all); (simp (disch := first | exact List.all_nil | omega | (simp only [go_sem]; done) | (simp only [ln, List.length_map]; omega) | (repeat' first | assumption | exact Ext.refl _ | refine Ext.app ?_ _)) only [go_sem]; rfl)))); (try ((first | apply aops_until | apply adraw_until); (simp (disch := first | exact List.all_nil | omega | (simp only [go_sem]; done) | (simp only [ln, List.length_map]; omega) | (repeat' first | assumption | exact Ext.refl _ | refine Ext.app ?_ _)) only [go_sem]; rfl))))
  refine aops_call_to (containsFunc_c hx signalErr1_c hb) ?_
  rw [any_not]
  ((repeat (first | refine Go.Lq.q1 ?_ | refine Go.Lq.q2 ?_ | refine Go.Lq.q3 ?_ | refine Go.Lq.q4 ?_ | refine Go.Lq.q5 ?_ | refine Go.Lq.q6 ?_ | refine Go.Lq.q7 ?_ | refine Go.Lq.q8 ?_ | refine Go.Lq.q9 ?_ | refine Go.Lq.qa ?_ | refine Go.Lq.qb ?_ | refine Go.Lq.qc ?_ | refine Go.Lq.qd ?_ | refine Go.Lq.qe (by decide) ?_ | refine Go.Lq.qf ?_ | refine Go.Lq.qg ?_ | ((first | apply aops_all | apply adraw_all); (simp (disch := first | exact List.all_nil | omega | (simp only [go_sem]; done) | (simp only [ln, List.length_map]; omega) | (repeat' first | assumption | exact Ext.refl _ | refine Ext.app ?_ _)) only [go_sem, hx.len, hx.idx, hx.load]; rfl)))); (try ((first | apply aops_until | apply adraw_until); (simp (disch := first | exact List.all_nil | omega | (simp only [go_sem]; done) | (simp only [ln, List.length_map]; omega) | (repeat' first | assumption | exact Ext.refl _ | refine Ext.app ?_ _)) only [go_sem, hx.len, hx.idx, hx.load]; rfl))))
  refine aops_call_to (unless_c _ _) ?_
  ((repeat (first | refine Go.Lq.q1 ?_ | refine Go.Lq.q2 ?_ | refine Go.Lq.q3 ?_ | refine Go.Lq.q4 ?_ | refine Go.Lq.q5 ?_ | refine Go.Lq.q6 ?_ | refine Go.Lq.q7 ?_ | refine Go.Lq.q8 ?_ | refine Go.Lq.q9 ?_ | refine Go.Lq.qa ?_ | refine Go.Lq.qb ?_ | refine Go.Lq.qc ?_ | refine Go.Lq.qd ?_ | refine Go.Lq.qe (by decide) ?_ | refine Go.Lq.qf ?_ | refine Go.Lq.qg ?_ | ((first | apply aops_all | apply adraw_all); (simp (disch := first | exact List.all_nil | omega | (simp only [go_sem]; done) | (simp only [ln, List.length_map]; omega) | (repeat' first | assumption | exact Ext.refl _ | refine Ext.app ?_ _)) only [go_sem]; rfl)))); (try ((first | apply aops_until | apply adraw_until); (simp (disch := first | exact List.all_nil | omega | (simp only [go_sem]; done) | (simp only [ln, List.length_map]; omega) | (repeat' first | assumption | exact Ext.refl _ | refine Ext.app ?_ _)) only [go_sem]; rfl))))
  refine aops_call_to (unless_c _ _) ?_
  ((repeat (first | refine Go.Lq.q1 ?_ | refine Go.Lq.q2 ?_ | refine Go.Lq.q3 ?_ | refine Go.Lq.q4 ?_ | refine Go.Lq.q5 ?_ | refine Go.Lq.q6 ?_ | refine Go.Lq.q7 ?_ | refine Go.Lq.q8 ?_ | refine Go.Lq.q9 ?_ | refine Go.Lq.qa ?_ | refine Go.Lq.qb ?_ | refine Go.Lq.qc ?_ | refine Go.Lq.qd ?_ | refine Go.Lq.qe (by decide) ?_ | refine Go.Lq.qf ?_ | refine Go.Lq.qg ?_ | ((first | apply aops_all | apply adraw_all); (simp (disch := first | exact List.all_nil | omega | (simp only [go_sem]; done) | (simp only [ln, List.length_map]; omega) | (repeat' first | assumption | exact Ext.refl _ | refine Ext.app ?_ _)) only [go_sem]; rfl)))); (try ((first | apply aops_until | apply adraw_until); (simp (disch := first | exact List.all_nil | omega | (simp only [go_sem]; done) | (simp only [ln, List.length_map]; omega) | (repeat' first | assumption | exact Ext.refl _ | refine Ext.app ?_ _)) only [go_sem]; rfl))))
  refine aops_call_to (first_c (l := [_, _]) (Ints.last (l := [_, _]) 2) (by simp)) ?_
  ((repeat (first | refine Go.Lq.q1 ?_ | refine Go.Lq.q2 ?_ | refine Go.Lq.q3 ?_ | refine Go.Lq.q4 ?_ | refine Go.Lq.q5 ?_ | refine Go.Lq.q6 ?_ | refine Go.Lq.q7 ?_ | refine Go.Lq.q8 ?_ | refine Go.Lq.q9 ?_ | refine Go.Lq.qa ?_ | refine Go.Lq.qb ?_ | refine Go.Lq.qc ?_ | refine Go.Lq.qd ?_ | refine Go.Lq.qe (by decide) ?_ | refine Go.Lq.qf ?_ | refine Go.Lq.qg ?_ | ((first | apply aops_all | apply adraw_all); (simp (disch := first | exact List.all_nil | omega | (simp only [go_sem]; done) | (simp only [ln, List.length_map]; omega) | (repeat' first | assumption | exact Ext.refl _ | refine Ext.app ?_ _)) only [go_sem]; rfl)))); (try ((first | apply aops_until | apply adraw_until); (simp (disch := first | exact List.all_nil | omega | (simp only [go_sem]; done) | (simp only [ln, List.length_map]; omega) | (repeat' first | assumption | exact Ext.refl _ | refine Ext.app ?_ _)) only [go_sem]; rfl))))
  refine fin_1 ⟨?_, (Ext.refl _).app _⟩
  unfold signalErrL
  by_cases h1 : 400 < x.length
  · have : ¬ (x.length : Int) ≤ 400 := by omega
    simp [firstErr, h1, this]
  · have : (x.length : Int) ≤ 400 := by omega
    cases hq : x.all (fun n => decide (-32767 ≤ n ∧ n ≤ 32767)) <;> simp [firstErr, h1, this]
theorem refSignalErr_c {x : List Int} {v : Value} (hx : Ints H x v) (hb : x.length ≤ 1000000000) : ACall Go.Proofs.Tryd.prog 28 [v] H fun v H' => v = .int .i64 (signalErrL x) ∧ H' = H := by
  (refine a28 ?_; simp only [n28, List.replicate, List.length_cons, List.length_nil, List.cons_append, List.nil_append])
  ((repeat (first | refine Go.Lq.q1 ?_ | refine Go.Lq.q2 ?_ | refine Go.Lq.q3 ?_ | refine Go.Lq.q4 ?_ | refine Go.Lq.q5 ?_ | refine Go.Lq.q6 ?_ | refine Go.Lq.q7 ?_ | refine Go.Lq.q8 ?_ | refine Go.Lq.q9 ?_ | refine Go.Lq.qa ?_ | refine Go.Lq.qb ?_ | refine Go.Lq.qc ?_ | refine Go.Lq.qd ?_ | refine Go.Lq.qe (by decide) ?_ | refine Go.Lq.qf ?_ | refine Go.Lq.qg ?_ | ((first | apply aops_all | apply adraw_all); (simp (disch := first | exact List.all_nil | omega | (simp only [go_sem]; done) | (simp only [ln, List.length_map]; omega) | (repeat' first | assumption | exact Ext.refl _ | refine Ext.app ?_ _)) only [go_sem, hx.len, hx.idx, hx.load]; rfl)))); (try ((first | apply aops_until | apply adraw_until); (simp (disch := first | exact List.all_nil | omega | (simp only [go_sem]; done) | (simp only [ln, List.length_map]; omega) | (repeat' first | assumption | exact Ext.refl _ | refine Ext.app ?_ _)) only [go_sem, hx.len, hx.idx, hx.load]; rfl))))
  refine cond_p rfl (fun hlt => ?_) (fun hge => ?_)
  · ((repeat (first | refine Go.Lq.q1 ?_ | refine Go.Lq.q2 ?_ | refine Go.Lq.q3 ?_ | refine Go.Lq.q4 ?_ | refine Go.Lq.q5 ?_ | refine Go.Lq.q6 ?_ | refine Go.Lq.q7 ?_ | refine Go.Lq.q8 ?_ | refine Go.Lq.q9 ?_ | refine Go.Lq.qa ?_ | refine Go.Lq.qb ?_ | refine Go.Lq.qc ?_ | refine Go.Lq.qd ?_ | refine Go.Lq.qe (by decide) ?_ | refine Go.Lq.qf ?_ | refine Go.Lq.qg ?_ | ((first | apply aops_all | apply adraw_all); (simp (disch := first | exact List.all_nil | omega | (simp only [go_sem]; done) | (simp only [ln, List.length_map]; omega) | (repeat' first | assumption | exact Ext.refl _ | refine Ext.app ?_ _)) only [go_sem]; rfl)))); (try ((first | apply aops_until | apply adraw_until); (simp (disch := first | exact List.all_nil | omega | (simp only [go_sem]; done) | (simp only [ln, List.length_map]; omega) | (repeat' first | assumption | exact Ext.refl _ | refine Ext.app ?_ _)) only [go_sem]; rfl))))
    refine fin_1 ⟨?_, rfl⟩
    unfold signalErrL
    rw [if_pos (by omega)]; rfl
  · ((repeat (first | refine Go.Lq.q1 ?_ | refine Go.Lq.q2 ?_ | refine Go.Lq.q3 ?_ | refine Go.Lq.q4 ?_ | refine Go.Lq.q5 ?_ | refine Go.Lq.q6 ?_ | refine Go.Lq.q7 ?_ | refine Go.Lq.q8 ?_ | refine Go.Lq.q9 ?_ | refine Go.Lq.qa ?_ | refine Go.Lq.qb ?_ | refine Go.Lq.qc ?_ | refine Go.Lq.qd ?_ | refine Go.Lq.qe (by decide) ?_ | refine Go.Lq.qf ?_ | refine Go.Lq.qg ?_ | ((first | apply aops_all | apply adraw_all); (simp (disch := first | exact List.all_nil | omega | (simp only [go_sem]; done) | (simp only [ln, List.length_map]; omega) | (repeat' first | assumption | exact Ext.refl _ | refine Ext.app ?_ _)) only [go_sem]; rfl)))); (try ((first | apply aops_until | apply adraw_until); (simp (disch := first | exact List.all_nil | omega | (simp only [go_sem]; done) | (simp only [ln, List.length_map]; omega) | (repeat' first | assumption | exact Ext.refl _ | refine Ext.app ?_ _)) only [go_sem]; rfl))))
    refine awp_loop_n [true, false, false, true, false, false, false, false, false, false, false, false, false, false, false, false, false, false, false] x.length (fun i e H' => H' = H ∧ e = [v, junk, junk, .int .i64 i, junk, junk, junk, junk, junk, junk, junk, junk, junk, junk, junk, junk, junk, junk, junk] ∧ ∀ j < i, decide (-32767 ≤ x.getD j 0 ∧ x.getD j 0 ≤ 32767) = true) ?_ ?_
    · exact ⟨rfl, rfl, by omega⟩
    · rintro i e H' hi ⟨rfl, rfl, hp⟩
      ((repeat (first | refine Go.Lq.q1 ?_ | refine Go.Lq.q2 ?_ | refine Go.Lq.q3 ?_ | refine Go.Lq.q4 ?_ | refine Go.Lq.q5 ?_ | refine Go.Lq.q6 ?_ | refine Go.Lq.q7 ?_ | refine Go.Lq.q8 ?_ | refine Go.Lq.q9 ?_ | refine Go.Lq.qa ?_ | refine Go.Lq.qb ?_ | refine Go.Lq.qc ?_ | refine Go.Lq.qd ?_ | refine Go.Lq.qe (by decide) ?_ | refine Go.Lq.qf ?_ | refine Go.Lq.qg ?_ | ((first | apply aops_all | apply adraw_all); (simp (disch := first | exact List.all_nil | omega | (simp only [go_sem]; done) | (simp only [ln, List.length_map]; omega) | (repeat' first | assumption | exact Ext.refl _ | refine Ext.app ?_ _)) only [go_sem, hx.len, hx.idx, hx.load]; rfl)))); (try ((first | apply aops_until | apply adraw_until); (simp (disch := first | exact List.all_nil | omega | (simp only [go_sem]; done) | (simp only [ln, List.length_map]; omega) | (repeat' first | assumption | exact Ext.refl _ | refine Ext.app ?_ _)) only [go_sem, hx.len, hx.idx, hx.load]; rfl))))
      refine cond_p rfl (fun hlt => ?_) (fun hge => ?_)
      · ((repeat (first | refine Go.Lq.q1 ?_ | refine Go.Lq.q2 ?_ | refine Go.Lq.q3 ?_ | refine Go.Lq.q4 ?_ | refine Go.Lq.q5 ?_ | refine Go.Lq.q6 ?_ | refine Go.Lq.q7 ?_ | refine Go.Lq.q8 ?_ | refine Go.Lq.q9 ?_ | refine Go.Lq.qa ?_ | refine Go.Lq.qb ?_ | refine Go.Lq.qc ?_ | refine Go.Lq.qd ?_ | refine Go.Lq.qe (by decide) ?_ | refine Go.Lq.qf ?_ | refine Go.Lq.qg ?_ | ((first | apply aops_all | apply adraw_all); (simp (disch := first | exact List.all_nil | omega | (simp only [go_sem]; done) | (simp only [ln, List.length_map]; omega) | (repeat' first | assumption | exact Ext.refl _ | refine Ext.app ?_ _)) only [go_sem, hx.len, hx.idx, hx.load]; rfl)))); (try ((first | apply aops_until | apply adraw_until); (simp (disch := first | exact List.all_nil | omega | (simp only [go_sem]; done) | (simp only [ln, List.length_map]; omega) | (repeat' first | assumption | exact Ext.refl _ | refine Ext.app ?_ _)) only [go_sem, hx.len, hx.idx, hx.load]; rfl))))
        refine aops_call_to (bwithin_c _ _ _) ?_
        ((repeat (first | refine Go.Lq.q1 ?_ | refine Go.Lq.q2 ?_ | refine Go.Lq.q3 ?_ | refine Go.Lq.q4 ?_ | refine Go.Lq.q5 ?_ | refine Go.Lq.q6 ?_ | refine Go.Lq.q7 ?_ | refine Go.Lq.q8 ?_ | refine Go.Lq.q9 ?_ | refine Go.Lq.qa ?_ | refine Go.Lq.qb ?_ | refine Go.Lq.qc ?_ | refine Go.Lq.qd ?_ | refine Go.Lq.qe (by decide) ?_ | refine Go.Lq.qf ?_ | refine Go.Lq.qg ?_ | ((first | apply aops_all | apply adraw_all); (simp (disch := first | exact List.all_nil | omega | (simp only [go_sem]; done) | (simp only [ln, List.length_map]; omega) | (repeat' first | assumption | exact Ext.refl _ | refine Ext.app ?_ _)) only [go_sem]; rfl)))); (try ((first | apply aops_until | apply adraw_until); (simp (disch := first | exact List.all_nil | omega | (simp only [go_sem]; done) | (simp only [ln, List.length_map]; omega) | (repeat' first | assumption | exact Ext.refl _ | refine Ext.app ?_ _)) only [go_sem]; rfl))))
        refine cond_n rfl (fun hne => ?_) (fun heq => ?_)
        · ((repeat (first | refine Go.Lq.q1 ?_ | refine Go.Lq.q2 ?_ | refine Go.Lq.q3 ?_ | refine Go.Lq.q4 ?_ | refine Go.Lq.q5 ?_ | refine Go.Lq.q6 ?_ | refine Go.Lq.q7 ?_ | refine Go.Lq.q8 ?_ | refine Go.Lq.q9 ?_ | refine Go.Lq.qa ?_ | refine Go.Lq.qb ?_ | refine Go.Lq.qc ?_ | refine Go.Lq.qd ?_ | refine Go.Lq.qe (by decide) ?_ | refine Go.Lq.qf ?_ | refine Go.Lq.qg ?_ | ((first | apply aops_all | apply adraw_all); (simp (disch := first | exact List.all_nil | omega | (simp only [go_sem]; done) | (simp only [ln, List.length_map]; omega) | (repeat' first | assumption | exact Ext.refl _ | refine Ext.app ?_ _)) only [go_sem]; rfl)))); (try ((first | apply aops_until | apply adraw_until); (simp (disch := first | exact List.all_nil | omega | (simp only [go_sem]; done) | (simp only [ln, List.length_map]; omega) | (repeat' first | assumption | exact Ext.refl _ | refine Ext.app ?_ _)) only [go_sem]; rfl))))
          refine fin_1 ⟨?_, rfl⟩
          have : x.all (fun n => decide (-32767 ≤ n ∧ n ≤ 32767)) = false := all_false (d := 0) (i := i) (by omega) (by simpa using hne)
          unfold signalErrL
          rw [if_neg (by omega), this]; rfl
        · ((repeat (first | refine Go.Lq.q1 ?_ | refine Go.Lq.q2 ?_ | refine Go.Lq.q3 ?_ | refine Go.Lq.q4 ?_ | refine Go.Lq.q5 ?_ | refine Go.Lq.q6 ?_ | refine Go.Lq.q7 ?_ | refine Go.Lq.q8 ?_ | refine Go.Lq.q9 ?_ | refine Go.Lq.qa ?_ | refine Go.Lq.qb ?_ | refine Go.Lq.qc ?_ | refine Go.Lq.qd ?_ | refine Go.Lq.qe (by decide) ?_ | refine Go.Lq.qf ?_ | refine Go.Lq.qg ?_ | ((first | apply aops_all | apply adraw_all); (simp (disch := first | exact List.all_nil | omega | (simp only [go_sem]; done) | (simp only [ln, List.length_map]; omega) | (repeat' first | assumption | exact Ext.refl _ | refine Ext.app ?_ _)) only [go_sem]; rfl)))); (try ((first | apply aops_until | apply adraw_until); (simp (disch := first | exact List.all_nil | omega | (simp only [go_sem]; done) | (simp only [ln, List.length_map]; omega) | (repeat' first | assumption | exact Ext.refl _ | refine Ext.app ?_ _)) only [go_sem]; rfl))))
          refine ⟨by omega, rfl, by simp [forget], fun j hj => ?_⟩
          by_cases h : j = i
          · subst h; exact decide_eq_true heq
          · exact hp j (by omega)
      · ((repeat (first | refine Go.Lq.q1 ?_ | refine Go.Lq.q2 ?_ | refine Go.Lq.q3 ?_ | refine Go.Lq.q4 ?_ | refine Go.Lq.q5 ?_ | refine Go.Lq.q6 ?_ | refine Go.Lq.q7 ?_ | refine Go.Lq.q8 ?_ | refine Go.Lq.q9 ?_ | refine Go.Lq.qa ?_ | refine Go.Lq.qb ?_ | refine Go.Lq.qc ?_ | refine Go.Lq.qd ?_ | refine Go.Lq.qe (by decide) ?_ | refine Go.Lq.qf ?_ | refine Go.Lq.qg ?_ | ((first | apply aops_all | apply adraw_all); (simp (disch := first | exact List.all_nil | omega | (simp only [go_sem]; done) | (simp only [ln, List.length_map]; omega) | (repeat' first | assumption | exact Ext.refl _ | refine Ext.app ?_ _)) only [go_sem]; rfl)))); (try ((first | apply aops_until | apply adraw_until); (simp (disch := first | exact List.all_nil | omega | (simp only [go_sem]; done) | (simp only [ln, List.length_map]; omega) | (repeat' first | assumption | exact Ext.refl _ | refine Ext.app ?_ _)) only [go_sem]; rfl))))
        refine fin_1 ⟨?_, rfl⟩
        have : x.all (fun n => decide (-32767 ≤ n ∧ n ≤ 32767)) = true := all_true (d := 0) fun j hj => hp j (by omega)
        unfold signalErrL
        rw [if_neg (by omega), this]; rfl
theorem short_c {x : List Int} {v : Value} (hx : Ints H x v) : ACall Go.Proofs.Tryd.prog 22 [v] H fun v H' => v = .bool (decide (x.length ≤ 64 ∨ (400 < x.length ∧ x.length ≤ 402))) ∧ H' = H := by
  (refine a22 ?_; simp only [n22, List.replicate, List.length_cons, List.length_nil, List.cons_append, List.nil_append])
  by_cases h1 : (x.length : Int) ≤ 64
  · ((repeat (first | refine Go.Lq.q1 ?_ | refine Go.Lq.q2 ?_ | refine Go.Lq.q3 ?_ | refine Go.Lq.q4 ?_ | refine Go.Lq.q5 ?_ | refine Go.Lq.q6 ?_ | refine Go.Lq.q7 ?_ | refine Go.Lq.q8 ?_ | refine Go.Lq.q9 ?_ | refine Go.Lq.qa ?_ | refine Go.Lq.qb ?_ | refine Go.Lq.qc ?_ | refine Go.Lq.qd ?_ | refine Go.Lq.qe (by decide) ?_ | refine Go.Lq.qf ?_ | refine Go.Lq.qg ?_ | ((first | apply aops_all | apply adraw_all); (simp (disch := first | exact List.all_nil | omega | (simp only [go_sem]; done) | (simp only [ln, List.length_map]; omega) | (repeat' first | assumption | exact Ext.refl _ | refine Ext.app ?_ _)) only [go_sem, hx.len, hx.idx, hx.load, dec_t h1]; rfl)))); (try ((first | apply aops_until | apply adraw_until); (simp (disch := first | exact List.all_nil | omega | (simp only [go_sem]; done) | (simp only [ln, List.length_map]; omega) | (repeat' first | assumption | exact Ext.refl _ | refine Ext.app ?_ _)) only [go_sem, hx.len, hx.idx, hx.load, dec_t h1]; rfl))))
    refine fin_1 ⟨?_, rfl⟩
    rw [dec_t (show x.length ≤ 64 ∨ _ from .inl (by omega))]; rfl
  · by_cases h2 : 400 < (x.length : Int)
    · ((repeat (first | refine Go.Lq.q1 ?_ | refine Go.Lq.q2 ?_ | refine Go.Lq.q3 ?_ | refine Go.Lq.q4 ?_ | refine Go.Lq.q5 ?_ | refine Go.Lq.q6 ?_ | refine Go.Lq.q7 ?_ | refine Go.Lq.q8 ?_ | refine Go.Lq.q9 ?_ | refine Go.Lq.qa ?_ | refine Go.Lq.qb ?_ | refine Go.Lq.qc ?_ | refine Go.Lq.qd ?_ | refine Go.Lq.qe (by decide) ?_ | refine Go.Lq.qf ?_ | refine Go.Lq.qg ?_ | ((first | apply aops_all | apply adraw_all); (simp (disch := first | exact List.all_nil | omega | (simp only [go_sem]; done) | (simp only [ln, List.length_map]; omega) | (repeat' first | assumption | exact Ext.refl _ | refine Ext.app ?_ _)) only [go_sem, hx.len, hx.idx, hx.load, dec_f h1, dec_t h2]; rfl)))); (try ((first | apply aops_until | apply adraw_until); (simp (disch := first | exact List.all_nil | omega | (simp only [go_sem]; done) | (simp only [ln, List.length_map]; omega) | (repeat' first | assumption | exact Ext.refl _ | refine Ext.app ?_ _)) only [go_sem, hx.len, hx.idx, hx.load, dec_f h1, dec_t h2]; rfl))))
      refine fin_1 ⟨?_, rfl⟩
      show Value.bool _ = _
      congr 1
      exact decide_eq_decide.2 ⟨fun h => .inr ⟨by omega, by omega⟩, fun h => by omega⟩
    · ((repeat (first | refine Go.Lq.q1 ?_ | refine Go.Lq.q2 ?_ | refine Go.Lq.q3 ?_ | refine Go.Lq.q4 ?_ | refine Go.Lq.q5 ?_ | refine Go.Lq.q6 ?_ | refine Go.Lq.q7 ?_ | refine Go.Lq.q8 ?_ | refine Go.Lq.q9 ?_ | refine Go.Lq.qa ?_ | refine Go.Lq.qb ?_ | refine Go.Lq.qc ?_ | refine Go.Lq.qd ?_ | refine Go.Lq.qe (by decide) ?_ | refine Go.Lq.qf ?_ | refine Go.Lq.qg ?_ | ((first | apply aops_all | apply adraw_all); (simp (disch := first | exact List.all_nil | omega | (simp only [go_sem]; done) | (simp only [ln, List.length_map]; omega) | (repeat' first | assumption | exact Ext.refl _ | refine Ext.app ?_ _)) only [go_sem, hx.len, hx.idx, hx.load, dec_f h1, dec_f h2]; rfl)))); (try ((first | apply aops_until | apply adraw_until); (simp (disch := first | exact List.all_nil | omega | (simp only [go_sem]; done) | (simp only [ln, List.length_map]; omega) | (repeat' first | assumption | exact Ext.refl _ | refine Ext.app ?_ _)) only [go_sem, hx.len, hx.idx, hx.load, dec_f h1, dec_f h2]; rfl))))
      refine fin_1 ⟨?_, rfl⟩
      rw [dec_f (show ¬ (x.length ≤ 64 ∨ (400 < x.length ∧ x.length ≤ 402)) by omega)]; rfl
theorem taps_c {c : List Int} {v : Value} {d : Int} (hc : Ints H c v) : ACall Go.Proofs.Tryd.prog 55 [.agg ⟨[v, .int .i64 d]⟩] H fun v H' => v = .bool (decide (c.length ≤ 10)) ∧ H' = H := by
  refine ACall.drop (.bool _) ?_
  (refine a55 ?_; simp only [n55, List.replicate, List.length_cons, List.length_nil, List.cons_append, List.nil_append])
  have g0 : (H ++ [AObj.cells true 0 [v, .int .i64 d]])[H.length]? = some (.cells true 0 [v, .int .i64 d]) := at_new
  have hc1 := hc.ext ((Ext.refl H).app [AObj.cells true 0 [v, .int .i64 d]])
  ((repeat (first | refine Go.Lq.q1 ?_ | refine Go.Lq.q2 ?_ | refine Go.Lq.q3 ?_ | refine Go.Lq.q4 ?_ | refine Go.Lq.q5 ?_ | refine Go.Lq.q6 ?_ | refine Go.Lq.q7 ?_ | refine Go.Lq.q8 ?_ | refine Go.Lq.q9 ?_ | refine Go.Lq.qa ?_ | refine Go.Lq.qb ?_ | refine Go.Lq.qc ?_ | refine Go.Lq.qd ?_ | refine Go.Lq.qe (by decide) ?_ | refine Go.Lq.qf ?_ | refine Go.Lq.qg ?_ | ((first | apply aops_all | apply adraw_all); (simp (disch := first | exact List.all_nil | omega | (simp only [go_sem]; done) | (simp only [ln, List.length_map]; omega) | (repeat' first | assumption | exact Ext.refl _ | refine Ext.app ?_ _)) only [go_sem, hc1.len, hc1.idx, hc1.load, hc.box2, load_at g0]; rfl)))); (try ((first | apply aops_until | apply adraw_until); (simp (disch := first | exact List.all_nil | omega | (simp only [go_sem]; done) | (simp only [ln, List.length_map]; omega) | (repeat' first | assumption | exact Ext.refl _ | refine Ext.app ?_ _)) only [go_sem, hc1.len, hc1.idx, hc1.load, hc.box2, load_at g0]; rfl))))
  refine fin_1 ⟨?_, (Ext.refl _).app _⟩
  show Value.bool _ = _
  congr 1
  exact decide_eq_decide.2 ⟨fun h => by omega, fun h => by omega⟩
theorem copyFilter_c {c : List Int} {v : Value} {d : Int} (hc : Ints H c v) (hb : c.length ≤ 1000000000) : ACall Go.Proofs.Tryd.prog 57 [.agg ⟨[v, .int .i64 d]⟩] H fun w H' =>
    w = .agg ⟨[.slice (some ⟨H.length, 0, none⟩) c.length c.length, .int .i64 d]⟩ ∧ H' = H ++ [.cells true 1 (c.map (.int .i64))] := by
  refine ACall.tidyE (f := fun s => .agg ⟨[s, .int .i64 d]⟩) (sz := 1) (n := c.length) (vs := c.map (.int .i64)) (wraps_agg2 (.int _ _)) (closed_ints c) ?_
  (refine a57 ?_; simp only [n57, List.replicate, List.length_cons, List.length_nil, List.cons_append, List.nil_append])
  obtain ⟨G, hG⟩ : ∃ G, G = H ++ [AObj.cells true 0 [v, .int .i64 d]] ++ [AObj.cells true 0 [.slice none 0 0, .int .i64 0]] := ⟨_, rfl⟩
  have g0 : G[H.length]? = some (.cells true 0 [v, .int .i64 d]) := by rw [hG]; exact at_app at_new
  have g1 : G[H.length + 1]? = some (.cells true 0 [.slice none 0 0, .int .i64 0]) := by rw [hG]; simp
  have xG : Ext H G := by rw [hG]; exact ((Ext.refl H).app _).app _
  have lG : G.length = H.length + 2 := by rw [hG]; simp
  ((repeat (first | refine Go.Lq.q1 ?_ | refine Go.Lq.q2 ?_ | refine Go.Lq.q3 ?_ | refine Go.Lq.q4 ?_ | refine Go.Lq.q5 ?_ | refine Go.Lq.q6 ?_ | refine Go.Lq.q8 ?_ | refine Go.Lq.q9 ?_ | refine Go.Lq.qa ?_ | refine Go.Lq.qb ?_ | refine Go.Lq.qc ?_ | refine Go.Lq.qd ?_ | refine Go.Lq.qe (by decide) ?_ | refine Go.Lq.qf ?_ | refine Go.Lq.qg ?_ | (apply aops_all; (simp (disch := first | exact List.all_nil | omega | (simp only [go_sem]; done) | (simp only [ln, List.length_map]; omega) | (repeat' first | assumption | exact Ext.refl _ | refine Ext.app ?_ _)) only [go_sem, hc.box2]; rfl)))); (try (apply aops_until; (simp (disch := first | exact List.all_nil | omega | (simp only [go_sem]; done) | (simp only [ln, List.length_map]; omega) | (repeat' first | assumption | exact Ext.refl _ | refine Ext.app ?_ _)) only [go_sem, hc.box2]; rfl))))
  (simp only [List.length_append, List.length_cons, List.length_nil, Nat.zero_add, Nat.add_assoc, Nat.reduceAdd])
  rw [← hG]
  clear hG
  ((repeat (first | refine Go.Lq.q1 ?_ | refine Go.Lq.q2 ?_ | refine Go.Lq.q3 ?_ | refine Go.Lq.q4 ?_ | refine Go.Lq.q5 ?_ | refine Go.Lq.q6 ?_ | refine Go.Lq.q7 ?_ | refine Go.Lq.q8 ?_ | refine Go.Lq.q9 ?_ | refine Go.Lq.qa ?_ | refine Go.Lq.qb ?_ | refine Go.Lq.qc ?_ | refine Go.Lq.qd ?_ | refine Go.Lq.qe (by decide) ?_ | refine Go.Lq.qf ?_ | refine Go.Lq.qg ?_ | ((first | apply aops_all | apply adraw_all); (simp (disch := first | exact List.all_nil | omega | (simp only [go_sem]; done) | (simp only [ln, List.length_map]; omega) | (repeat' first | assumption | exact Ext.refl _ | refine Ext.app ?_ _)) only [go_sem, load_at g0]; rfl)))); (try ((first | apply aops_until | apply adraw_until); (simp (disch := first | exact List.all_nil | omega | (simp only [go_sem]; done) | (simp only [ln, List.length_map]; omega) | (repeat' first | assumption | exact Ext.refl _ | refine Ext.app ?_ _)) only [go_sem, load_at g0]; rfl))))
  refine adraw_call (copyInts_c (hc.ext xG) hb) ?_
  have q0 := at_app (N := [AObj.cells true 1 (c.map (.int .i64))]) g0
  have q1 := at_app (N := [AObj.cells true 1 (c.map (.int .i64))]) g1
  have q2 : (G ++ [AObj.cells true 1 (c.map (.int .i64))])[G.length]? = some (.cells true 1 (c.map (.int .i64))) := at_new
  have x2 : Ext H (G ++ [AObj.cells true 1 (c.map (.int .i64))]) := xG.app _
  generalize (G ++ [AObj.cells true 1 (c.map (.int .i64))] : AHeap) = G2 at q0 q1 q2 x2
  ((repeat (first | refine Go.Lq.q1 ?_ | refine Go.Lq.q2 ?_ | refine Go.Lq.q3 ?_ | refine Go.Lq.q4 ?_ | refine Go.Lq.q5 ?_ | refine Go.Lq.q6 ?_ | refine Go.Lq.q7 ?_ | refine Go.Lq.q8 ?_ | refine Go.Lq.q9 ?_ | refine Go.Lq.qa ?_ | refine Go.Lq.qb ?_ | refine Go.Lq.qc ?_ | refine Go.Lq.qd ?_ | refine Go.Lq.qe (by decide) ?_ | refine Go.Lq.qf ?_ | refine Go.Lq.qg ?_ | ((first | apply aops_all | apply adraw_all); (simp (disch := first | exact List.all_nil | omega | (simp only [go_sem]; done) | (simp only [ln, List.length_map]; omega) | (repeat' first | assumption | exact Ext.refl _ | refine Ext.app ?_ _)) only [go_sem, load_at q0, fill2v (isAtom_slice _ _ _), store_at2v (a := .slice (some ⟨G.length, 0, none⟩) c.length c.length) (b := .int .i64 d) q1 rfl rfl]; rfl)))); (try ((first | apply aops_until | apply adraw_until); (simp (disch := first | exact List.all_nil | omega | (simp only [go_sem]; done) | (simp only [ln, List.length_map]; omega) | (repeat' first | assumption | exact Ext.refl _ | refine Ext.app ?_ _)) only [go_sem, load_at q0, fill2v (isAtom_slice _ _ _), store_at2v (a := .slice (some ⟨G.length, 0, none⟩) c.length c.length) (b := .int .i64 d) q1 rfl rfl]; rfl))))
  refine fin_l1 (u := .agg ⟨[.slice (some ⟨G.length, 0, none⟩) c.length c.length, .int .i64 d]⟩) ?_ ?_
  · exact loadN_at (k := 0) (get_set_self q1) (by simp)
  · exact ⟨_, G.length, rfl, x2.set (by omega) _, rfl, by omega, by rw [List.getElem?_set_ne (by omega)]; exact q2⟩
end
end Go.Lq
