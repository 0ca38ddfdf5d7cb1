/- Towards GrooveStrings of seat YtejkpmemicpheabGreatDoor: it returns true for every input. Made out of the proof's own texts, merged. -/
import Derived.Shelf.Strings.OnBuilder
import Derived.Shelf.Strconv.Itoa3
import Derived.Shelf.Strconv.AtoiAll
import Derived.Shelf.Strings.Search3
import Derived.Shelf.Strings.Cut
import Derived.Shelf.Strings.Split
import Derived.Shelf.Strings.Prefix
import Derived.Shelf.LaysM
import Derived.Shelf.LaysC
import Derived.Test.YtejkpmemicpheabGreatDoorProg
import Derived.Lib.AppendIntMem
import Derived.Lib.AtoiErrMem
import Derived.KernelRfl
import Derived.Test.YtejkpmemicpheabGreatDoorV31
set_option linter.unusedSimpArgs false
set_option linter.unnecessarySimpa false
set_option linter.unusedVariables false
set_option linter.unusedSectionVars false
set_option maxRecDepth 100000
namespace Go.Lq
open Go

def R119 : RFunc :=
  ⟨(.seq (.ops [⟨(some 4), (.mov (.const (.int .i64 0))), none⟩, ⟨(some 5), (.mov (.const (.bool false))), none⟩]) (.seq (.ops [⟨(some 9), (.mov (.tmp 0)), none⟩, ⟨(some 10), (.call (.func 41) [(.tmp 9)]), none⟩, ⟨(some 8), (.mov (.tmp 10)), none⟩, ⟨(some 11), (.extract (.tmp 8) 0), none⟩, ⟨(some 12), (.extract (.tmp 8) 1), none⟩, ⟨(some 6), (.mov (.tmp 11)), none⟩, ⟨(some 7), (.mov (.tmp 12)), none⟩]) (.seq (.ops [⟨(some 13), (.mov (.tmp 6)), none⟩, ⟨(some 14), (.mov (.tmp 7)), none⟩, ⟨(some 15), (.eqv 4 false (.tmp 14) (.const .nilIface)), none⟩, ⟨(some 16), (.mov (.tmp 15)), none⟩, ⟨(some 17), (.mov (.tmp 6)), (some (16, true))⟩, ⟨(some 18), (.cmp .geq (.tmp 17) (.const (.int .i64 0))), (some (16, true))⟩, ⟨(some 19), (.pick (.tmp 16) (.tmp 18) (.const (.bool false))), none⟩, ⟨(some 20), (.mov (.tmp 19)), none⟩, ⟨(some 21), (.mov (.tmp 6)), (some (20, true))⟩, ⟨(some 22), (.call (.func 38) [(.tmp 21)]), (some (20, true))⟩, ⟨(some 23), (.mov (.tmp 0)), (some (20, true))⟩, ⟨(some 24), (.strOp .eql (.tmp 22) (.tmp 23)), (some (20, true))⟩, ⟨(some 25), (.pick (.tmp 20) (.tmp 24) (.const (.bool false))), none⟩, ⟨(some 26), (.mov (.tmp 25)), none⟩, ⟨(some 27), (.mov (.tmp 0)), (some (26, true))⟩, ⟨(some 28), (.lenS (.tmp 27)), (some (26, true))⟩, ⟨(some 29), (.mov (.tmp 1)), (some (26, true))⟩, ⟨(some 30), (.cmp .leq (.tmp 28) (.tmp 29)), (some (26, true))⟩, ⟨(some 31), (.pick (.tmp 26) (.tmp 30) (.const (.bool false))), none⟩, ⟨(some 4), (.mov (.tmp 13)), none⟩, ⟨(some 5), (.mov (.tmp 31)), none⟩]) .ret))), 32, [(.tmp 4), (.tmp 5)]⟩
theorem c119 : compileFn Go.Proofs.Tryz.prog Go.Proofs.Tryz.f119 = some R119 := by kernel_rfl
theorem n119 : R119.ntmps = 32 := rfl
theorem a119 {args : List Value} {H : AHeap} {Q : Value → AHeap → Prop} (h : AWP Go.Proofs.Tryz.prog none R119.code (Fin R119 Q) (args ++ List.replicate (R119.ntmps - args.length) undef) H) : ACall Go.Proofs.Tryz.prog 119 args H Q := acall_intro mo Go.Proofs.Tryz.func119 c119 h

def R126 : RFunc :=
  ⟨(.seq (.ops [⟨(some 4), (.mov (.const (.int .i64 0))), none⟩, ⟨(some 5), (.mov (.const (.bool false))), none⟩]) (.seq (.ops [⟨(some 9), (.mov (.tmp 0)), none⟩, ⟨(some 10), (.mov (.tmp 1)), none⟩, ⟨(some 11), (.call (.func 45) [(.tmp 9), (.tmp 10)]), none⟩, ⟨(some 8), (.mov (.tmp 11)), none⟩, ⟨(some 12), (.extract (.tmp 8) 0), none⟩, ⟨(some 13), (.extract (.tmp 8) 1), none⟩, ⟨(some 6), (.mov (.tmp 12)), none⟩, ⟨(some 7), (.mov (.tmp 13)), none⟩]) (.seq (.draw [(⟨(some 14), (.mov (.tmp 6)), none⟩, false), (⟨(some 15), (.mov (.tmp 7)), none⟩, false), (⟨(some 16), (.mov (.tmp 15)), none⟩, false), (⟨(some 17), (.mov (.tmp 0)), (some (16, true))⟩, false), (⟨(some 18), (.idxS (.tmp 17) (.const (.int .i64 0))), (some (16, true))⟩, false), (⟨(some 19), (.cmp .neq (.tmp 18) (.const (.int .u8 45))), (some (16, true))⟩, false), (⟨(some 20), (.pick (.tmp 16) (.tmp 19) (.const (.bool false))), none⟩, false), (⟨(some 4), (.mov (.tmp 14)), none⟩, false), (⟨(some 5), (.mov (.tmp 20)), none⟩, false)]) .ret))), 21, [(.tmp 4), (.tmp 5)]⟩
theorem c126 : compileFn Go.Proofs.Tryz.prog Go.Proofs.Tryz.f126 = some R126 := by kernel_rfl
theorem n126 : R126.ntmps = 21 := rfl
theorem a126 {args : List Value} {H : AHeap} {Q : Value → AHeap → Prop} (h : AWP Go.Proofs.Tryz.prog none R126.code (Fin R126 Q) (args ++ List.replicate (R126.ntmps - args.length) undef) H) : ACall Go.Proofs.Tryz.prog 126 args H Q := acall_intro mo Go.Proofs.Tryz.func126 c126 h

def R128 : RFunc :=
  ⟨(.seq (.ops [⟨(some 7), (.box (.tmp 3)), none⟩, ⟨(some 8), (.mov (.const (.int .i64 0))), none⟩]) (.seq (.seq (.ops [⟨(some 13), (.mov (.tmp 0)), none⟩, ⟨(some 14), (.len (.tmp 13)), none⟩, ⟨(some 15), (.cmp .eql (.tmp 14) (.const (.int .i64 0))), none⟩, ⟨(some 16), (.mov (.tmp 15)), none⟩, ⟨(some 17), (.mov (.tmp 0)), (some (16, false))⟩, ⟨(some 18), (.idxAddr 1 (.tmp 17) (.const (.int .i64 0))), (some (16, false))⟩, ⟨(some 19), (.load (.tmp 18)), (some (16, false))⟩, ⟨(some 20), (.len (.tmp 19)), (some (16, false))⟩, ⟨(some 21), (.cmp .eql (.tmp 20) (.const (.int .i64 0))), (some (16, false))⟩, ⟨(some 22), (.pick (.tmp 16) (.const (.bool true)) (.tmp 21)), none⟩]) (.cond (.tmp 22) (.seq (.ops [⟨(some 8), (.mov (.const (.int .i64 10))), none⟩]) .ret) .skip)) (.seq (.seq (.ops [⟨(some 23), (.mov (.tmp 0)), none⟩, ⟨(some 24), (.len (.tmp 23)), none⟩, ⟨(some 25), (.mov (.tmp 1)), none⟩, ⟨(some 26), (.cmp .gtr (.tmp 24) (.tmp 25)), none⟩, ⟨(some 27), (.mov (.tmp 26)), none⟩, ⟨(some 28), (.mov (.tmp 0)), (some (27, false))⟩, ⟨(some 29), (.idxAddr 1 (.tmp 28) (.const (.int .i64 0))), (some (27, false))⟩, ⟨(some 30), (.load (.tmp 29)), (some (27, false))⟩, ⟨(some 31), (.len (.tmp 30)), (some (27, false))⟩, ⟨(some 32), (.mov (.tmp 2)), (some (27, false))⟩, ⟨(some 33), (.cmp .gtr (.tmp 31) (.tmp 32)), (some (27, false))⟩, ⟨(some 34), (.pick (.tmp 27) (.const (.bool true)) (.tmp 33)), none⟩]) (.cond (.tmp 34) (.seq (.ops [⟨(some 8), (.mov (.const (.int .i64 8))), none⟩]) .ret) .skip)) (.seq (.seq (.ops [⟨(some 35), (.mov (.tmp 0)), none⟩, ⟨(some 36), (.len (.tmp 35)), none⟩, ⟨(some 37), (.mov (.const (.int .i64 0))), none⟩]) (.block 0 (.loop (.seq (.ops [⟨(some 38), (.cmp .lss (.tmp 37) (.tmp 36)), none⟩]) (.seq (.cond (.tmp 38) .skip (.exit 0)) (.seq (.block 1 (.seq (.ops [⟨(some 39), (.idxAddr 1 (.tmp 35) (.tmp 37)), none⟩, ⟨(some 40), (.load (.tmp 39)), none⟩, ⟨(some 10), (.mov (.tmp 40)), none⟩]) (.seq (.ops [⟨(some 41), (.mov (.tmp 10)), none⟩, ⟨(some 42), (.mkFunc (.func 164) [] [(.tmp 7)]), none⟩, ⟨(some 43), (.call (.func 102) [(.tmp 41), (.tmp 42)]), none⟩, ⟨(some 11), (.mov (.tmp 43)), none⟩]) (.seq (.ops [⟨(some 44), (.mov (.tmp 10)), none⟩, ⟨(some 45), (.len (.tmp 44)), none⟩, ⟨(some 46), (.mov (.tmp 0)), none⟩, ⟨(some 47), (.idxAddr 1 (.tmp 46) (.const (.int .i64 0))), none⟩, ⟨(some 48), (.load (.tmp 47)), none⟩, ⟨(some 49), (.len (.tmp 48)), none⟩, ⟨(some 50), (.cmp .eql (.tmp 45) (.tmp 49)), none⟩, ⟨(some 51), (.call (.func 76) [(.tmp 50), (.const (.int .i64 10))]), none⟩, ⟨(some 52), (.mov (.tmp 11)), none⟩, ⟨(some 53), (.not (.tmp 52)), none⟩, ⟨(some 54), (.call (.func 76) [(.tmp 53), (.const (.int .i64 2))]), none⟩, ⟨(some 55), (.buildSlice 1 2 [(.int .i64 0), (.int .i64 0)] [(0, (1, (.tmp 51))), (1, (1, (.tmp 54)))]), none⟩, ⟨(some 56), (.call (.func 74) [(.tmp 55)]), none⟩, ⟨(some 12), (.mov (.tmp 56)), none⟩]) (.seq (.ops [⟨(some 57), (.mov (.tmp 12)), none⟩, ⟨(some 58), (.cmp .neq (.tmp 57) (.const (.int .i64 0))), none⟩]) (.cond (.tmp 58) (.seq (.ops [⟨(some 59), (.mov (.tmp 12)), none⟩, ⟨(some 8), (.mov (.tmp 59)), none⟩]) .ret) .skip)))))) (.ops [⟨(some 60), (.arith .add (.tmp 37) (.const (.int .i64 1))), none⟩, ⟨(some 37), (.mov (.tmp 60)), none⟩]))))))) (.seq (.ops [⟨(some 8), (.mov (.const (.int .i64 0))), none⟩]) .ret))))), 61, [(.tmp 8)]⟩
theorem c128 : compileFn Go.Proofs.Tryz.prog Go.Proofs.Tryz.f128 = some R128 := by kernel_rfl
theorem n128 : R128.ntmps = 61 := rfl
theorem a128 {args : List Value} {H : AHeap} {Q : Value → AHeap → Prop} (h : AWP Go.Proofs.Tryz.prog none R128.code (Fin R128 Q) (args ++ List.replicate (R128.ntmps - args.length) undef) H) : ACall Go.Proofs.Tryz.prog 128 args H Q := acall_intro mo Go.Proofs.Tryz.func128 c128 h

def R129 : RFunc :=
  ⟨(.seq (.ops [⟨(some 5), (.mov (.const (.bool false))), none⟩]) (.seq (.ops [⟨(some 6), (.mov (.tmp 0)), none⟩, ⟨(some 7), (.load (.tmp 2)), none⟩, ⟨(some 8), (.mov (.tmp 1)), none⟩, ⟨(some 9), (.arith .sub (.tmp 8) (.const (.int .i64 1))), none⟩, ⟨(some 10), (.load (.tmp 2)), none⟩, ⟨(some 11), (.arith .sub (.tmp 9) (.tmp 10)), none⟩, ⟨(some 12), (.call (.func 77) [(.tmp 6), (.tmp 7), (.tmp 11)]), none⟩, ⟨(some 5), (.mov (.tmp 12)), none⟩]) .ret)), 13, [(.tmp 5)]⟩
theorem c129 : compileFn Go.Proofs.Tryz.prog Go.Proofs.Tryz.f129 = some R129 := by kernel_rfl
theorem n129 : R129.ntmps = 13 := rfl
theorem a129 {args : List Value} {H : AHeap} {Q : Value → AHeap → Prop} (h : AWP Go.Proofs.Tryz.prog none R129.code (Fin R129 Q) (args ++ List.replicate (R129.ntmps - args.length) undef) H) : ACall Go.Proofs.Tryz.prog 129 args H Q := acall_intro mo Go.Proofs.Tryz.func129 c129 h

def R130 : RFunc :=
  ⟨(.seq (.ops [⟨(some 2), (.box (.tmp 0)), none⟩, ⟨(some 3), (.box (.tmp 1)), none⟩, ⟨(some 4), (.mov (.const .nilFunc)), none⟩]) (.seq (.ops [⟨(some 5), (.mkFunc (.func 165) [] [(.tmp 2), (.tmp 3)]), none⟩, ⟨(some 4), (.mov (.tmp 5)), none⟩]) .ret)), 6, [(.tmp 4)]⟩
theorem c130 : compileFn Go.Proofs.Tryz.prog Go.Proofs.Tryz.f130 = some R130 := by kernel_rfl
theorem n130 : R130.ntmps = 6 := rfl
theorem a130 {args : List Value} {H : AHeap} {Q : Value → AHeap → Prop} (h : AWP Go.Proofs.Tryz.prog none R130.code (Fin R130 Q) (args ++ List.replicate (R130.ntmps - args.length) undef) H) : ACall Go.Proofs.Tryz.prog 130 args H Q := acall_intro mo Go.Proofs.Tryz.func130 c130 h

def R131 : RFunc :=
  ⟨(.seq (.ops [⟨(some 2), (.mov (.const (.int .i64 0))), none⟩]) (.seq (.ops [⟨(some 3), (.mov (.tmp 0)), none⟩, ⟨(some 4), (.call (.func 166) [(.tmp 3), (.const (.int .i64 40)), (.const (.int .i64 12)), (.const (.int .i64 255))]), none⟩, ⟨(some 2), (.mov (.tmp 4)), none⟩]) .ret)), 5, [(.tmp 2)]⟩
theorem c131 : compileFn Go.Proofs.Tryz.prog Go.Proofs.Tryz.f131 = some R131 := by kernel_rfl
theorem n131 : R131.ntmps = 5 := rfl
theorem a131 {args : List Value} {H : AHeap} {Q : Value → AHeap → Prop} (h : AWP Go.Proofs.Tryz.prog none R131.code (Fin R131 Q) (args ++ List.replicate (R131.ntmps - args.length) undef) H) : ACall Go.Proofs.Tryz.prog 131 args H Q := acall_intro mo Go.Proofs.Tryz.func131 c131 h

def R132 : RFunc :=
  ⟨(.seq (.ops [⟨(some 1), (.box (.tmp 0)), none⟩, ⟨(some 2), (.mov (.const .nilFunc)), none⟩]) (.seq (.ops [⟨(some 3), (.mkFunc (.func 167) [] [(.tmp 1)]), none⟩, ⟨(some 2), (.mov (.tmp 3)), none⟩]) .ret)), 4, [(.tmp 2)]⟩
theorem c132 : compileFn Go.Proofs.Tryz.prog Go.Proofs.Tryz.f132 = some R132 := by kernel_rfl
theorem n132 : R132.ntmps = 4 := rfl
theorem a132 {args : List Value} {H : AHeap} {Q : Value → AHeap → Prop} (h : AWP Go.Proofs.Tryz.prog none R132.code (Fin R132 Q) (args ++ List.replicate (R132.ntmps - args.length) undef) H) : ACall Go.Proofs.Tryz.prog 132 args H Q := acall_intro mo Go.Proofs.Tryz.func132 c132 h

def R133 : RFunc :=
  ⟨(.seq (.ops [⟨(some 4), (.mov (.const (.slice none 0 0))), none⟩]) (.seq (.seq (.ops [⟨(some 9), (.mov (.tmp 1)), none⟩, ⟨(some 10), (.cmp .lss (.tmp 9) (.const (.int .i64 0))), none⟩]) (.cond (.tmp 10) (.ops [⟨(some 11), (.iface 9 (.const (.string ⟨#[99, 97, 110, 110, 111, 116, 32, 98, 101, 32, 110, 101, 103, 97, 116, 105, 118, 101]⟩))), none⟩, ⟨none, (.extract (.const (.chan none)) 0), none⟩]) .skip)) (.seq (.ops [⟨(some 13), (.mov (.tmp 0)), none⟩, ⟨(some 14), (.len (.tmp 13)), none⟩, ⟨(some 15), (.conv .u64 (.tmp 14)), none⟩, ⟨(some 16), (.mov (.tmp 1)), none⟩, ⟨(some 17), (.conv .u64 (.tmp 16)), none⟩, ⟨(some 18), (.call (.func 168) [(.tmp 15), (.tmp 17)]), none⟩, ⟨(some 12), (.mov (.tmp 18)), none⟩, ⟨(some 19), (.extract (.tmp 12) 0), none⟩, ⟨(some 20), (.extract (.tmp 12) 1), none⟩, ⟨(some 5), (.mov (.tmp 19)), none⟩, ⟨(some 6), (.mov (.tmp 20)), none⟩]) (.seq (.seq (.ops [⟨(some 21), (.mov (.tmp 5)), none⟩, ⟨(some 22), (.cmp .gtr (.tmp 21) (.const (.int .u64 0))), none⟩, ⟨(some 23), (.mov (.tmp 22)), none⟩, ⟨(some 24), (.mov (.tmp 6)), (some (23, false))⟩, ⟨(some 25), (.cmp .gtr (.tmp 24) (.const (.int .u64 9223372036854775807))), (some (23, false))⟩, ⟨(some 26), (.pick (.tmp 23) (.const (.bool true)) (.tmp 25)), none⟩]) (.cond (.tmp 26) (.ops [⟨(some 27), (.iface 9 (.const (.string ⟨#[116, 104, 101, 32, 114, 101, 115, 117, 108, 116, 32, 111, 102, 32, 40, 108, 101, 110, 40, 120, 41, 32, 42, 32, 99, 111, 117, 110, 116, 41, 32, 111, 118, 101, 114, 102, 108, 111, 119, 115]⟩))), none⟩, ⟨none, (.extract (.const (.chan none)) 0), none⟩]) .skip)) (.seq (.ops [⟨(some 28), (.mov (.tmp 6)), none⟩, ⟨(some 29), (.conv .i64 (.tmp 28)), none⟩, ⟨(some 30), (.mkSlice 8 [(.int .i64 0)] (.tmp 29) (.tmp 29)), none⟩, ⟨(some 7), (.mov (.tmp 30)), none⟩]) (.seq (.ops [⟨(some 31), (.mov (.tmp 7)), none⟩, ⟨(some 32), (.mov (.tmp 0)), none⟩, ⟨(some 33), (.copy 1 (.tmp 31) (.tmp 32)), none⟩, ⟨(some 8), (.mov (.tmp 33)), none⟩]) (.seq (.block 0 (.loop (.seq (.seq (.ops [⟨(some 34), (.mov (.tmp 8)), none⟩, ⟨(some 35), (.mov (.tmp 7)), none⟩, ⟨(some 36), (.len (.tmp 35)), none⟩, ⟨(some 37), (.cmp .lss (.tmp 34) (.tmp 36)), none⟩]) (.cond (.tmp 37) .skip (.exit 0))) (.block 1 (.draw [(⟨(some 38), (.mov (.tmp 8)), none⟩, false), (⟨(some 39), (.mov (.tmp 7)), none⟩, false), (⟨(some 40), (.mov (.tmp 8)), none⟩, false), (⟨(some 41), (.slice 1 (.tmp 39) (some (.tmp 40)) none none), none⟩, false), (⟨(some 42), (.mov (.tmp 7)), none⟩, false), (⟨(some 43), (.mov (.tmp 8)), none⟩, false), (⟨(some 44), (.slice 1 (.tmp 42) none (some (.tmp 43)) none), none⟩, false), (⟨(some 45), (.copy 1 (.tmp 41) (.tmp 44)), none⟩, false), (⟨(some 46), (.arith .add (.tmp 38) (.tmp 45)), none⟩, false), (⟨(some 8), (.mov (.tmp 46)), none⟩, false)]))))) (.seq (.ops [⟨(some 47), (.mov (.tmp 7)), none⟩, ⟨(some 4), (.mov (.tmp 47)), none⟩]) .ret)))))))), 48, [(.tmp 4)]⟩
theorem c133 : compileFn Go.Proofs.Tryz.prog Go.Proofs.Tryz.f133 = some R133 := by kernel_rfl
theorem n133 : R133.ntmps = 48 := rfl
theorem a133 {args : List Value} {H : AHeap} {Q : Value → AHeap → Prop} (h : AWP Go.Proofs.Tryz.prog none R133.code (Fin R133 Q) (args ++ List.replicate (R133.ntmps - args.length) undef) H) : ACall Go.Proofs.Tryz.prog 133 args H Q := acall_intro mo Go.Proofs.Tryz.func133 c133 h

def R134 : RFunc :=
  ⟨(.seq (.ops [⟨(some 1), (.box (.tmp 0)), none⟩, ⟨(some 2), (.mov (.const (.int .i64 0))), none⟩]) (.seq (.ops [⟨(some 3), (.fieldAddr 0 (.tmp 1)), none⟩, ⟨(some 4), (.fieldAddr 0 (.tmp 3)), none⟩, ⟨(some 5), (.load (.tmp 4)), none⟩, ⟨(some 6), (.len (.tmp 5)), none⟩, ⟨(some 7), (.arith .sub (.tmp 6) (.const (.int .i64 1))), none⟩, ⟨(some 2), (.mov (.tmp 7)), none⟩]) .ret)), 8, [(.tmp 2)]⟩
theorem c134 : compileFn Go.Proofs.Tryz.prog Go.Proofs.Tryz.f134 = some R134 := by kernel_rfl
theorem n134 : R134.ntmps = 8 := rfl
theorem a134 {args : List Value} {H : AHeap} {Q : Value → AHeap → Prop} (h : AWP Go.Proofs.Tryz.prog none R134.code (Fin R134 Q) (args ++ List.replicate (R134.ntmps - args.length) undef) H) : ACall Go.Proofs.Tryz.prog 134 args H Q := acall_intro mo Go.Proofs.Tryz.func134 c134 h

def R135 : RFunc :=
  ⟨(.seq (.ops [⟨(some 2), (.box (.tmp 0)), none⟩, ⟨(some 3), (.box (.tmp 1)), none⟩, ⟨(some 4), (.mov (.const .nilFunc)), none⟩]) (.seq (.ops [⟨(some 5), (.mkFunc (.func 169) [] [(.tmp 3), (.tmp 2)]), none⟩, ⟨(some 4), (.mov (.tmp 5)), none⟩]) .ret)), 6, [(.tmp 4)]⟩
theorem c135 : compileFn Go.Proofs.Tryz.prog Go.Proofs.Tryz.f135 = some R135 := by kernel_rfl
theorem n135 : R135.ntmps = 6 := rfl
theorem a135 {args : List Value} {H : AHeap} {Q : Value → AHeap → Prop} (h : AWP Go.Proofs.Tryz.prog none R135.code (Fin R135 Q) (args ++ List.replicate (R135.ntmps - args.length) undef) H) : ACall Go.Proofs.Tryz.prog 135 args H Q := acall_intro mo Go.Proofs.Tryz.func135 c135 h

def R136 : RFunc :=
  ⟨(.seq (.ops [⟨(some 3), (.box (.tmp 0)), none⟩, ⟨(some 6), (.mov (.const (.int .i64 0))), none⟩]) (.seq (.seq (.ops [⟨(some 7), (.mov (.tmp 1)), none⟩, ⟨(some 8), (.mov (.tmp 2)), none⟩, ⟨(some 9), (.cmp .eql (.tmp 7) (.tmp 8)), none⟩]) (.cond (.tmp 9) (.seq (.ops [⟨(some 6), (.mov (.const (.int .i64 0))), none⟩]) .ret) .skip)) (.seq (.ops [⟨(some 10), (.fieldAddr 0 (.tmp 3)), none⟩, ⟨(some 11), (.fieldAddr 1 (.tmp 10)), none⟩, ⟨(some 12), (.load (.tmp 11)), none⟩, ⟨(some 6), (.mov (.tmp 12)), none⟩]) .ret))), 13, [(.tmp 6)]⟩
theorem c136 : compileFn Go.Proofs.Tryz.prog Go.Proofs.Tryz.f136 = some R136 := by kernel_rfl
theorem n136 : R136.ntmps = 13 := rfl
theorem a136 {args : List Value} {H : AHeap} {Q : Value → AHeap → Prop} (h : AWP Go.Proofs.Tryz.prog none R136.code (Fin R136 Q) (args ++ List.replicate (R136.ntmps - args.length) undef) H) : ACall Go.Proofs.Tryz.prog 136 args H Q := acall_intro mo Go.Proofs.Tryz.func136 c136 h

def R137 : RFunc :=
  ⟨(.seq (.ops [⟨(some 4), (.mov (.const (.string ⟨#[]⟩))), none⟩]) (.seq (.seq (.ops [⟨(some 10), (.mov (.tmp 1)), none⟩, ⟨(some 11), (.cmp .eql (.tmp 10) (.const (.int .i64 10))), none⟩]) (.cond (.tmp 11) (.seq (.seq (.ops [⟨(some 12), (.mov (.tmp 0)), none⟩, ⟨(some 13), (.cmp .leq (.const (.int .i64 0)) (.tmp 12)), none⟩, ⟨(some 14), (.mov (.tmp 13)), none⟩, ⟨(some 15), (.mov (.tmp 0)), (some (14, true))⟩, ⟨(some 16), (.cmp .lss (.tmp 15) (.const (.int .i64 100))), (some (14, true))⟩, ⟨(some 17), (.pick (.tmp 14) (.tmp 16) (.const (.bool false))), none⟩]) (.cond (.tmp 17) (.seq (.ops [⟨(some 18), (.mov (.tmp 0)), none⟩, ⟨(some 19), (.call (.func 170) [(.tmp 18)]), none⟩, ⟨(some 4), (.mov (.tmp 19)), none⟩]) .ret) .skip)) (.seq (.ops [⟨(some 5), (.new [(.int .u8 0), (.int .u8 0), (.int .u8 0), (.int .u8 0), (.int .u8 0), (.int .u8 0), (.int .u8 0), (.int .u8 0), (.int .u8 0), (.int .u8 0), (.int .u8 0), (.int .u8 0), (.int .u8 0), (.int .u8 0), (.int .u8 0), (.int .u8 0), (.int .u8 0), (.int .u8 0), (.int .u8 0), (.int .u8 0), (.int .u8 0), (.int .u8 0), (.int .u8 0), (.int .u8 0)]), none⟩]) (.seq (.ops [⟨(some 20), (.mov (.tmp 0)), none⟩, ⟨(some 21), (.conv .u64 (.tmp 20)), none⟩, ⟨(some 6), (.mov (.tmp 21)), none⟩]) (.seq (.seq (.ops [⟨(some 22), (.mov (.tmp 0)), none⟩, ⟨(some 23), (.cmp .lss (.tmp 22) (.const (.int .i64 0))), none⟩]) (.cond (.tmp 23) (.ops [⟨(some 24), (.mov (.tmp 6)), none⟩, ⟨(some 25), (.neg (.tmp 24)), none⟩, ⟨(some 6), (.mov (.tmp 25)), none⟩]) .skip)) (.seq (.ops [⟨(some 26), (.mov (.tmp 6)), none⟩, ⟨(some 27), (.call (.func 171) [(.tmp 26)]), none⟩, ⟨(some 7), (.mov (.tmp 27)), none⟩]) (.seq (.ops [⟨(some 28), (.mov (.tmp 7)), none⟩, ⟨(some 29), (.arith .add (.const (.int .i64 1)) (.tmp 28)), none⟩, ⟨(some 30), (.extract (.const (.chan none)) 0), none⟩, ⟨(some 31), (.mov (.tmp 6)), none⟩, ⟨(some 32), (.call (.func 172) [(.tmp 30), (.tmp 31)]), none⟩]) (.seq (.seq (.ops [⟨(some 33), (.mov (.tmp 0)), none⟩, ⟨(some 34), (.cmp .lss (.tmp 33) (.const (.int .i64 0))), none⟩]) (.cond (.tmp 34) (.seq (.ops [⟨(some 35), (.idxAddrA 24 1 (.tmp 5) (.const (.int .i64 0))), none⟩, ⟨none, (.store 1 (.tmp 35) (.const (.int .u8 45))), none⟩]) (.seq (.ops [⟨(some 36), (.mov (.tmp 7)), none⟩, ⟨(some 37), (.arith .add (.const (.int .i64 1)) (.tmp 36)), none⟩, ⟨(some 38), (.extract (.const (.chan none)) 0), none⟩, ⟨(some 39), (.byteS (.tmp 38)), none⟩, ⟨(some 4), (.mov (.tmp 39)), none⟩]) .ret)) .skip)) (.seq (.ops [⟨(some 40), (.mov (.tmp 7)), none⟩, ⟨(some 41), (.arith .add (.const (.int .i64 1)) (.tmp 40)), none⟩, ⟨(some 42), (.extract (.const (.chan none)) 0), none⟩, ⟨(some 43), (.byteS (.tmp 42)), none⟩, ⟨(some 4), (.mov (.tmp 43)), none⟩]) .ret)))))))) .skip)) (.seq (.ops [⟨(some 45), (.mov (.tmp 0)), none⟩, ⟨(some 46), (.conv .u64 (.tmp 45)), none⟩, ⟨(some 47), (.mov (.tmp 1)), none⟩, ⟨(some 48), (.mov (.tmp 0)), none⟩, ⟨(some 49), (.cmp .lss (.tmp 48) (.const (.int .i64 0))), none⟩, ⟨(some 50), (.call (.func 173) [(.const (.slice none 0 0)), (.tmp 46), (.tmp 47), (.tmp 49), (.const (.bool false))]), none⟩, ⟨(some 44), (.mov (.tmp 50)), none⟩, ⟨(some 51), (.extract (.tmp 44) 0), none⟩, ⟨(some 52), (.extract (.tmp 44) 1), none⟩, ⟨(some 8), (.mov (.tmp 51)), none⟩, ⟨(some 9), (.mov (.tmp 52)), none⟩]) (.seq (.ops [⟨(some 53), (.mov (.tmp 9)), none⟩, ⟨(some 4), (.mov (.tmp 53)), none⟩]) .ret)))), 54, [(.tmp 4)]⟩
theorem c137 : compileFn Go.Proofs.Tryz.prog Go.Proofs.Tryz.f137 = some R137 := by kernel_rfl
theorem n137 : R137.ntmps = 54 := rfl
theorem a137 {args : List Value} {H : AHeap} {Q : Value → AHeap → Prop} (h : AWP Go.Proofs.Tryz.prog none R137.code (Fin R137 Q) (args ++ List.replicate (R137.ntmps - args.length) undef) H) : ACall Go.Proofs.Tryz.prog 137 args H Q := acall_intro mo Go.Proofs.Tryz.func137 c137 h

def R139 : RFunc :=
  ⟨(.seq (.draw [(⟨(some 5), (.mov (.tmp 0)), none⟩, false), (⟨(some 6), (.nilCheck (.tmp 5)), none⟩, false), (⟨(some 7), (.fieldAddr 1 (.tmp 6)), none⟩, false), (⟨(some 8), (.load (.tmp 7)), none⟩, false), (⟨(some 9), (.extract (.const (.chan none)) 0), none⟩, false), (⟨(some 10), (.arith .mul (.const (.int .i64 2)) (.tmp 9)), none⟩, false), (⟨(some 11), (.mov (.tmp 1)), none⟩, false), (⟨(some 12), (.arith .add (.tmp 10) (.tmp 11)), none⟩, false), (⟨(some 13), (.call (.func 175) [(.tmp 12)]), none⟩, false), (⟨(some 14), (.mov (.tmp 0)), none⟩, false), (⟨(some 15), (.nilCheck (.tmp 14)), none⟩, false), (⟨(some 16), (.fieldAddr 1 (.tmp 15)), none⟩, false), (⟨(some 17), (.load (.tmp 16)), none⟩, false), (⟨(some 18), (.len (.tmp 17)), none⟩, false), (⟨(some 19), (.slice 1 (.tmp 13) none (some (.tmp 18)) none), none⟩, false), (⟨(some 4), (.mov (.tmp 19)), none⟩, false)]) (.seq (.ops [⟨(some 20), (.mov (.tmp 4)), none⟩, ⟨(some 21), (.mov (.tmp 0)), none⟩, ⟨(some 22), (.nilCheck (.tmp 21)), none⟩, ⟨(some 23), (.fieldAddr 1 (.tmp 22)), none⟩, ⟨(some 24), (.load (.tmp 23)), none⟩, ⟨(some 25), (.copy 1 (.tmp 20) (.tmp 24)), none⟩]) (.ops [⟨(some 26), (.mov (.tmp 0)), none⟩, ⟨(some 27), (.mov (.tmp 4)), none⟩, ⟨(some 28), (.nilCheck (.tmp 26)), none⟩, ⟨(some 29), (.fieldAddr 1 (.tmp 28)), none⟩, ⟨none, (.store 1 (.tmp 29) (.tmp 27)), none⟩]))), 30, []⟩
theorem c139 : compileFn Go.Proofs.Tryz.prog Go.Proofs.Tryz.f139 = some R139 := by kernel_rfl
theorem n139 : R139.ntmps = 30 := rfl
theorem a139 {args : List Value} {H : AHeap} {Q : Value → AHeap → Prop} (h : AWP Go.Proofs.Tryz.prog none R139.code (Fin R139 Q) (args ++ List.replicate (R139.ntmps - args.length) undef) H) : ACall Go.Proofs.Tryz.prog 139 args H Q := acall_intro mo Go.Proofs.Tryz.func139 c139 h

def R140 : RFunc :=
  ⟨(.seq (.seq (.ops [⟨(some 9), (.load (.tmp 1)), none⟩, ⟨(some 10), (.lenS (.tmp 9)), none⟩, ⟨(some 11), (.cmp .eql (.tmp 10) (.const (.int .i64 0))), none⟩]) (.cond (.tmp 11) (.seq (.block 0 (.loop (.seq (.seq (.ops [⟨(some 12), (.load (.tmp 2)), none⟩, ⟨(some 13), (.lenS (.tmp 12)), none⟩, ⟨(some 14), (.cmp .gtr (.tmp 13) (.const (.int .i64 0))), none⟩]) (.cond (.tmp 14) .skip (.exit 0))) (.block 1 (.seq (.ops [⟨(some 16), (.load (.tmp 2)), none⟩, ⟨(some 17), (.call (.func 141) [(.tmp 16)]), none⟩, ⟨(some 15), (.mov (.tmp 17)), none⟩, ⟨(some 18), (.extract (.tmp 15) 0), none⟩, ⟨(some 19), (.extract (.tmp 15) 1), none⟩, ⟨(some 5), (.mov (.tmp 18)), none⟩, ⟨(some 6), (.mov (.tmp 19)), none⟩]) (.seq (.seq (.ops [⟨(some 20), (.mov (.tmp 0)), none⟩, ⟨(some 21), (.load (.tmp 2)), none⟩, ⟨(some 22), (.mov (.tmp 6)), none⟩, ⟨(some 23), (.sliceS (.tmp 21) none (some (.tmp 22))), none⟩, ⟨(some 24), (.call (.tmp 20) [(.tmp 23)]), none⟩, ⟨(some 25), (.not (.tmp 24)), none⟩]) (.cond (.tmp 25) .ret .skip)) (.ops [⟨(some 26), (.load (.tmp 2)), none⟩, ⟨(some 27), (.mov (.tmp 6)), none⟩, ⟨(some 28), (.sliceS (.tmp 26) (some (.tmp 27)) none), none⟩, ⟨none, (.store 1 (.tmp 2) (.tmp 28)), none⟩]))))))) .ret) .skip)) (.seq (.block 2 (.loop (.block 3 (.seq (.ops [⟨(some 29), (.load (.tmp 2)), none⟩, ⟨(some 30), (.load (.tmp 1)), none⟩, ⟨(some 31), (.call (.func 142) [(.tmp 29), (.tmp 30)]), none⟩, ⟨(some 7), (.mov (.tmp 31)), none⟩]) (.seq (.seq (.ops [⟨(some 32), (.mov (.tmp 7)), none⟩, ⟨(some 33), (.cmp .lss (.tmp 32) (.const (.int .i64 0))), none⟩]) (.cond (.tmp 33) (.exit 2) .skip)) (.seq (.ops [⟨(some 34), (.load (.tmp 2)), none⟩, ⟨(some 35), (.mov (.tmp 7)), none⟩, ⟨(some 36), (.load (.tmp 3)), none⟩, ⟨(some 37), (.arith .add (.tmp 35) (.tmp 36)), none⟩, ⟨(some 38), (.sliceS (.tmp 34) none (some (.tmp 37))), none⟩, ⟨(some 8), (.mov (.tmp 38)), none⟩]) (.seq (.seq (.ops [⟨(some 39), (.mov (.tmp 0)), none⟩, ⟨(some 40), (.mov (.tmp 8)), none⟩, ⟨(some 41), (.call (.tmp 39) [(.tmp 40)]), none⟩, ⟨(some 42), (.not (.tmp 41)), none⟩]) (.cond (.tmp 42) .ret .skip)) (.ops [⟨(some 43), (.load (.tmp 2)), none⟩, ⟨(some 44), (.mov (.tmp 7)), none⟩, ⟨(some 45), (.load (.tmp 1)), none⟩, ⟨(some 46), (.lenS (.tmp 45)), none⟩, ⟨(some 47), (.arith .add (.tmp 44) (.tmp 46)), none⟩, ⟨(some 48), (.sliceS (.tmp 43) (some (.tmp 47)) none), none⟩, ⟨none, (.store 1 (.tmp 2) (.tmp 48)), none⟩])))))))) (.ops [⟨(some 49), (.mov (.tmp 0)), none⟩, ⟨(some 50), (.load (.tmp 2)), none⟩, ⟨(some 51), (.call (.tmp 49) [(.tmp 50)]), none⟩]))), 52, []⟩
theorem c140 : compileFn Go.Proofs.Tryz.prog Go.Proofs.Tryz.f140 = some R140 := by kernel_rfl
theorem n140 : R140.ntmps = 52 := rfl
theorem a140 {args : List Value} {H : AHeap} {Q : Value → AHeap → Prop} (h : AWP Go.Proofs.Tryz.prog none R140.code (Fin R140 Q) (args ++ List.replicate (R140.ntmps - args.length) undef) H) : ACall Go.Proofs.Tryz.prog 140 args H Q := acall_intro mo Go.Proofs.Tryz.func140 c140 h

def R141 : RFunc :=
  ⟨(.seq (.ops [⟨(some 2), (.mov (.const (.int .i32 0))), none⟩, ⟨(some 3), (.mov (.const (.int .i64 0))), none⟩]) (.seq (.seq (.ops [⟨(some 4), (.mov (.tmp 0)), none⟩, ⟨(some 5), (.strOp .neq (.tmp 4) (.const (.string ⟨#[]⟩))), none⟩, ⟨(some 6), (.mov (.tmp 5)), none⟩, ⟨(some 7), (.mov (.tmp 0)), (some (6, true))⟩, ⟨(some 8), (.idxS (.tmp 7) (.const (.int .i64 0))), (some (6, true))⟩, ⟨(some 9), (.cmp .lss (.tmp 8) (.const (.int .u8 128))), (some (6, true))⟩, ⟨(some 10), (.pick (.tmp 6) (.tmp 9) (.const (.bool false))), none⟩]) (.cond (.tmp 10) (.seq (.ops [⟨(some 11), (.mov (.tmp 0)), none⟩, ⟨(some 12), (.idxS (.tmp 11) (.const (.int .i64 0))), none⟩, ⟨(some 13), (.conv .i32 (.tmp 12)), none⟩, ⟨(some 2), (.mov (.tmp 13)), none⟩, ⟨(some 3), (.mov (.const (.int .i64 1))), none⟩]) .ret) (.ops [⟨(some 15), (.mov (.tmp 0)), none⟩, ⟨(some 16), (.call (.func 176) [(.tmp 15)]), none⟩, ⟨(some 14), (.mov (.tmp 16)), none⟩, ⟨(some 17), (.extract (.tmp 14) 0), none⟩, ⟨(some 18), (.extract (.tmp 14) 1), none⟩, ⟨(some 2), (.mov (.tmp 17)), none⟩, ⟨(some 3), (.mov (.tmp 18)), none⟩]))) .ret)), 19, [(.tmp 2), (.tmp 3)]⟩
theorem c141 : compileFn Go.Proofs.Tryz.prog Go.Proofs.Tryz.f141 = some R141 := by kernel_rfl
theorem n141 : R141.ntmps = 19 := rfl
theorem a141 {args : List Value} {H : AHeap} {Q : Value → AHeap → Prop} (h : AWP Go.Proofs.Tryz.prog none R141.code (Fin R141 Q) (args ++ List.replicate (R141.ntmps - args.length) undef) H) : ACall Go.Proofs.Tryz.prog 141 args H Q := acall_intro mo Go.Proofs.Tryz.func141 c141 h

def R142 : RFunc :=
  ⟨(.seq (.ops [⟨(some 4), (.mov (.const (.int .i64 0))), none⟩]) (.seq (.ops [⟨(some 5), (.mov (.tmp 0)), none⟩, ⟨(some 6), (.mov (.tmp 1)), none⟩, ⟨(some 7), (.call (.func 155) [(.tmp 5), (.tmp 6)]), none⟩, ⟨(some 4), (.mov (.tmp 7)), none⟩]) .ret)), 8, [(.tmp 4)]⟩
theorem c142 : compileFn Go.Proofs.Tryz.prog Go.Proofs.Tryz.f142 = some R142 := by kernel_rfl
theorem n142 : R142.ntmps = 8 := rfl
theorem a142 {args : List Value} {H : AHeap} {Q : Value → AHeap → Prop} (h : AWP Go.Proofs.Tryz.prog none R142.code (Fin R142 Q) (args ++ List.replicate (R142.ntmps - args.length) undef) H) : ACall Go.Proofs.Tryz.prog 142 args H Q := acall_intro mo Go.Proofs.Tryz.func142 c142 h

def R143 : RFunc :=
  ⟨(.seq (.ops [⟨(some 6), (.mov (.const (.int .i64 0))), none⟩, ⟨(some 7), (.mov (.const .nilIface)), none⟩]) (.seq (.seq (.ops [⟨(some 12), (.mov (.tmp 0)), none⟩, ⟨(some 13), (.strOp .eql (.tmp 12) (.const (.string ⟨#[]⟩))), none⟩]) (.cond (.tmp 13) (.seq (.ops [⟨(some 14), (.iface 201 (.const (.int .i64 2))), none⟩, ⟨(some 6), (.mov (.const (.int .i64 0))), none⟩, ⟨(some 7), (.mov (.tmp 14)), none⟩]) .ret) .skip)) (.seq (.ops [⟨(some 8), (.mov (.const (.bool false))), none⟩]) (.seq (.seq (.ops [⟨(some 15), (.mov (.tmp 0)), none⟩, ⟨(some 16), (.idxS (.tmp 15) (.const (.int .i64 0))), none⟩]) (.block 0 (.seq (.ops [⟨(some 18), (.cmp .eql (.tmp 16) (.const (.int .u8 43))), none⟩, ⟨(some 17), (.mov (.tmp 18)), none⟩]) (.cond (.tmp 17) (.ops [⟨(some 19), (.mov (.tmp 0)), none⟩, ⟨(some 20), (.sliceS (.tmp 19) (some (.const (.int .i64 1))) none), none⟩, ⟨(some 0), (.mov (.tmp 20)), none⟩]) (.seq (.ops [⟨(some 22), (.cmp .eql (.tmp 16) (.const (.int .u8 45))), none⟩, ⟨(some 21), (.mov (.tmp 22)), none⟩]) (.cond (.tmp 21) (.seq (.ops [⟨(some 23), (.mov (.tmp 0)), none⟩, ⟨(some 24), (.sliceS (.tmp 23) (some (.const (.int .i64 1))) none), none⟩, ⟨(some 0), (.mov (.tmp 24)), none⟩]) (.ops [⟨(some 8), (.mov (.const (.bool true))), none⟩])) .skip)))))) (.seq (.ops [⟨(some 9), (.mov (.const (.int .u64 0))), none⟩]) (.seq (.ops [⟨(some 26), (.mov (.tmp 0)), none⟩, ⟨(some 27), (.mov (.tmp 1)), none⟩, ⟨(some 28), (.mov (.tmp 2)), none⟩, ⟨(some 29), (.call (.func 177) [(.tmp 26), (.tmp 27), (.tmp 28)]), none⟩, ⟨(some 25), (.mov (.tmp 29)), none⟩, ⟨(some 30), (.extract (.tmp 25) 0), none⟩, ⟨(some 31), (.extract (.tmp 25) 1), none⟩, ⟨(some 9), (.mov (.tmp 30)), none⟩, ⟨(some 7), (.mov (.tmp 31)), none⟩]) (.seq (.seq (.ops [⟨(some 32), (.mov (.tmp 7)), none⟩, ⟨(some 33), (.eqv 4 true (.tmp 32) (.const .nilIface)), none⟩, ⟨(some 34), (.mov (.tmp 33)), none⟩, ⟨(some 35), (.mov (.tmp 7)), (some (34, true))⟩, ⟨(some 36), (.iface 201 (.const (.int .i64 1))), (some (34, true))⟩, ⟨(some 37), (.extract (.const (.chan none)) 0), (some (34, true))⟩, ⟨(some 38), (.pick (.tmp 34) (.tmp 37) (.const (.bool false))), none⟩]) (.cond (.tmp 38) (.seq (.ops [⟨(some 39), (.mov (.tmp 7)), none⟩, ⟨(some 6), (.mov (.const (.int .i64 0))), none⟩, ⟨(some 7), (.mov (.tmp 39)), none⟩]) .ret) .skip)) (.seq (.seq (.ops [⟨(some 40), (.mov (.tmp 2)), none⟩, ⟨(some 41), (.cmp .eql (.tmp 40) (.const (.int .i64 0))), none⟩]) (.cond (.tmp 41) (.ops [⟨(some 2), (.mov (.const (.int .i64 64))), none⟩]) .skip)) (.seq (.ops [⟨(some 42), (.mov (.tmp 2)), none⟩, ⟨(some 43), (.arith .sub (.tmp 42) (.const (.int .i64 1))), none⟩, ⟨(some 44), (.conv .u64 (.tmp 43)), none⟩, ⟨(some 45), (.shl (.const (.int .u64 1)) (.tmp 44)), none⟩, ⟨(some 10), (.mov (.tmp 45)), none⟩]) (.seq (.seq (.ops [⟨(some 46), (.mov (.tmp 8)), none⟩, ⟨(some 47), (.not (.tmp 46)), none⟩, ⟨(some 48), (.mov (.tmp 47)), none⟩, ⟨(some 49), (.mov (.tmp 9)), (some (48, true))⟩, ⟨(some 50), (.mov (.tmp 10)), (some (48, true))⟩, ⟨(some 51), (.cmp .geq (.tmp 49) (.tmp 50)), (some (48, true))⟩, ⟨(some 52), (.pick (.tmp 48) (.tmp 51) (.const (.bool false))), none⟩]) (.cond (.tmp 52) (.seq (.ops [⟨(some 53), (.mov (.tmp 10)), none⟩, ⟨(some 54), (.arith .sub (.tmp 53) (.const (.int .u64 1))), none⟩, ⟨(some 55), (.conv .i64 (.tmp 54)), none⟩, ⟨(some 56), (.iface 201 (.const (.int .i64 1))), none⟩, ⟨(some 6), (.mov (.tmp 55)), none⟩, ⟨(some 7), (.mov (.tmp 56)), none⟩]) .ret) .skip)) (.seq (.seq (.ops [⟨(some 57), (.mov (.tmp 8)), none⟩, ⟨(some 58), (.mov (.tmp 57)), none⟩, ⟨(some 59), (.mov (.tmp 9)), (some (58, true))⟩, ⟨(some 60), (.mov (.tmp 10)), (some (58, true))⟩, ⟨(some 61), (.cmp .gtr (.tmp 59) (.tmp 60)), (some (58, true))⟩, ⟨(some 62), (.pick (.tmp 58) (.tmp 61) (.const (.bool false))), none⟩]) (.cond (.tmp 62) (.seq (.ops [⟨(some 63), (.mov (.tmp 10)), none⟩, ⟨(some 64), (.conv .i64 (.tmp 63)), none⟩, ⟨(some 65), (.neg (.tmp 64)), none⟩, ⟨(some 66), (.iface 201 (.const (.int .i64 1))), none⟩, ⟨(some 6), (.mov (.tmp 65)), none⟩, ⟨(some 7), (.mov (.tmp 66)), none⟩]) .ret) .skip)) (.seq (.ops [⟨(some 67), (.mov (.tmp 9)), none⟩, ⟨(some 68), (.conv .i64 (.tmp 67)), none⟩, ⟨(some 11), (.mov (.tmp 68)), none⟩]) (.seq (.seq (.ops [⟨(some 69), (.mov (.tmp 8)), none⟩]) (.cond (.tmp 69) (.ops [⟨(some 70), (.mov (.tmp 11)), none⟩, ⟨(some 71), (.neg (.tmp 70)), none⟩, ⟨(some 11), (.mov (.tmp 71)), none⟩]) .skip)) (.seq (.ops [⟨(some 72), (.mov (.tmp 11)), none⟩, ⟨(some 6), (.mov (.tmp 72)), none⟩, ⟨(some 7), (.mov (.const .nilIface)), none⟩]) .ret)))))))))))))), 73, [(.tmp 6), (.tmp 7)]⟩
theorem c143 : compileFn Go.Proofs.Tryz.prog Go.Proofs.Tryz.f143 = some R143 := by kernel_rfl
theorem n143 : R143.ntmps = 73 := rfl
theorem a143 {args : List Value} {H : AHeap} {Q : Value → AHeap → Prop} (h : AWP Go.Proofs.Tryz.prog none R143.code (Fin R143 Q) (args ++ List.replicate (R143.ntmps - args.length) undef) H) : ACall Go.Proofs.Tryz.prog 143 args H Q := acall_intro mo Go.Proofs.Tryz.func143 c143 h

def R144 : RFunc :=
  ⟨(.seq (.ops [⟨(some 4), (.mov (.const (.pointer none))), none⟩]) (.seq (.draw [(⟨(some 5), (.mov (.tmp 0)), none⟩, false), (⟨(some 6), (.mov (.tmp 1)), none⟩, false), (⟨(some 7), (.call (.func 178) [(.tmp 6)]), none⟩, false), (⟨(some 8), (.load (.global 3)), none⟩, false), (⟨(some 9), (.build [(.string ⟨#[]⟩), (.string ⟨#[]⟩), .nilIface] [(0, (1, (.tmp 5))), (1, (1, (.tmp 7))), (2, (1, (.tmp 8)))]), none⟩, false), (⟨(some 10), (.box (.tmp 9)), none⟩, false), (⟨(some 4), (.mov (.tmp 10)), none⟩, false)]) .ret)), 11, [(.tmp 4)]⟩
theorem c144 : compileFn Go.Proofs.Tryz.prog Go.Proofs.Tryz.f144 = some R144 := by kernel_rfl
theorem n144 : R144.ntmps = 11 := rfl
theorem a144 {args : List Value} {H : AHeap} {Q : Value → AHeap → Prop} (h : AWP Go.Proofs.Tryz.prog none R144.code (Fin R144 Q) (args ++ List.replicate (R144.ntmps - args.length) undef) H) : ACall Go.Proofs.Tryz.prog 144 args H Q := acall_intro mo Go.Proofs.Tryz.func144 c144 h

def R145 : RFunc :=
  ⟨(.seq (.ops [⟨(some 4), (.mov (.const (.pointer none))), none⟩]) (.seq (.draw [(⟨(some 5), (.mov (.tmp 0)), none⟩, false), (⟨(some 6), (.mov (.tmp 1)), none⟩, false), (⟨(some 7), (.call (.func 178) [(.tmp 6)]), none⟩, false), (⟨(some 8), (.load (.global 4)), none⟩, false), (⟨(some 9), (.build [(.string ⟨#[]⟩), (.string ⟨#[]⟩), .nilIface] [(0, (1, (.tmp 5))), (1, (1, (.tmp 7))), (2, (1, (.tmp 8)))]), none⟩, false), (⟨(some 10), (.box (.tmp 9)), none⟩, false), (⟨(some 4), (.mov (.tmp 10)), none⟩, false)]) .ret)), 11, [(.tmp 4)]⟩
theorem c145 : compileFn Go.Proofs.Tryz.prog Go.Proofs.Tryz.f145 = some R145 := by kernel_rfl
theorem n145 : R145.ntmps = 11 := rfl
theorem a145 {args : List Value} {H : AHeap} {Q : Value → AHeap → Prop} (h : AWP Go.Proofs.Tryz.prog none R145.code (Fin R145 Q) (args ++ List.replicate (R145.ntmps - args.length) undef) H) : ACall Go.Proofs.Tryz.prog 145 args H Q := acall_intro mo Go.Proofs.Tryz.func145 c145 h

def R146 : RFunc :=
  ⟨(.seq (.ops [⟨(some 6), (.mov (.const (.pointer none))), none⟩]) (.seq (.ops [⟨(some 7), (.mov (.tmp 0)), none⟩, ⟨(some 8), (.mov (.tmp 1)), none⟩, ⟨(some 9), (.call (.func 178) [(.tmp 8)]), none⟩, ⟨(some 10), (.mov (.tmp 2)), none⟩, ⟨(some 11), (.call (.func 38) [(.tmp 10)]), none⟩, ⟨(some 12), (.strOp .add (.const (.string ⟨#[105, 110, 118, 97, 108, 105, 100, 32, 98, 97, 115, 101, 32]⟩)) (.tmp 11)), none⟩, ⟨(some 13), (.call (.func 179) [(.tmp 12)]), none⟩, ⟨(some 14), (.build [(.string ⟨#[]⟩), (.string ⟨#[]⟩), .nilIface] [(0, (1, (.tmp 7))), (1, (1, (.tmp 9))), (2, (1, (.tmp 13)))]), none⟩, ⟨(some 15), (.box (.tmp 14)), none⟩, ⟨(some 6), (.mov (.tmp 15)), none⟩]) .ret)), 16, [(.tmp 6)]⟩
theorem c146 : compileFn Go.Proofs.Tryz.prog Go.Proofs.Tryz.f146 = some R146 := by kernel_rfl
theorem n146 : R146.ntmps = 16 := rfl
theorem a146 {args : List Value} {H : AHeap} {Q : Value → AHeap → Prop} (h : AWP Go.Proofs.Tryz.prog none R146.code (Fin R146 Q) (args ++ List.replicate (R146.ntmps - args.length) undef) H) : ACall Go.Proofs.Tryz.prog 146 args H Q := acall_intro mo Go.Proofs.Tryz.func146 c146 h

def R147 : RFunc :=
  ⟨(.seq (.ops [⟨(some 6), (.mov (.const (.pointer none))), none⟩]) (.seq (.ops [⟨(some 7), (.mov (.tmp 0)), none⟩, ⟨(some 8), (.mov (.tmp 1)), none⟩, ⟨(some 9), (.call (.func 178) [(.tmp 8)]), none⟩, ⟨(some 10), (.mov (.tmp 2)), none⟩, ⟨(some 11), (.call (.func 38) [(.tmp 10)]), none⟩, ⟨(some 12), (.strOp .add (.const (.string ⟨#[105, 110, 118, 97, 108, 105, 100, 32, 98, 105, 116, 32, 115, 105, 122, 101, 32]⟩)) (.tmp 11)), none⟩, ⟨(some 13), (.call (.func 179) [(.tmp 12)]), none⟩, ⟨(some 14), (.build [(.string ⟨#[]⟩), (.string ⟨#[]⟩), .nilIface] [(0, (1, (.tmp 7))), (1, (1, (.tmp 9))), (2, (1, (.tmp 13)))]), none⟩, ⟨(some 15), (.box (.tmp 14)), none⟩, ⟨(some 6), (.mov (.tmp 15)), none⟩]) .ret)), 16, [(.tmp 6)]⟩
theorem c147 : compileFn Go.Proofs.Tryz.prog Go.Proofs.Tryz.f147 = some R147 := by kernel_rfl
theorem n147 : R147.ntmps = 16 := rfl
theorem a147 {args : List Value} {H : AHeap} {Q : Value → AHeap → Prop} (h : AWP Go.Proofs.Tryz.prog none R147.code (Fin R147 Q) (args ++ List.replicate (R147.ntmps - args.length) undef) H) : ACall Go.Proofs.Tryz.prog 147 args H Q := acall_intro mo Go.Proofs.Tryz.func147 c147 h

def R148 : RFunc :=
  ⟨(.seq (.ops [⟨(some 4), (.mov (.const (.bool false))), none⟩]) (.seq (.ops [⟨(some 5), (.mov (.tmp 0)), none⟩, ⟨(some 6), (.lenS (.tmp 5)), none⟩, ⟨(some 7), (.mov (.tmp 1)), none⟩, ⟨(some 8), (.lenS (.tmp 7)), none⟩, ⟨(some 9), (.cmp .geq (.tmp 6) (.tmp 8)), none⟩, ⟨(some 10), (.mov (.tmp 9)), none⟩, ⟨(some 11), (.mov (.tmp 0)), (some (10, true))⟩, ⟨(some 12), (.mov (.tmp 1)), (some (10, true))⟩, ⟨(some 13), (.lenS (.tmp 12)), (some (10, true))⟩, ⟨(some 14), (.sliceS (.tmp 11) none (some (.tmp 13))), (some (10, true))⟩, ⟨(some 15), (.mov (.tmp 1)), (some (10, true))⟩, ⟨(some 16), (.strOp .eql (.tmp 14) (.tmp 15)), (some (10, true))⟩, ⟨(some 17), (.pick (.tmp 10) (.tmp 16) (.const (.bool false))), none⟩, ⟨(some 4), (.mov (.tmp 17)), none⟩]) .ret)), 18, [(.tmp 4)]⟩
theorem c148 : compileFn Go.Proofs.Tryz.prog Go.Proofs.Tryz.f148 = some R148 := by kernel_rfl
theorem n148 : R148.ntmps = 18 := rfl
theorem a148 {args : List Value} {H : AHeap} {Q : Value → AHeap → Prop} (h : AWP Go.Proofs.Tryz.prog none R148.code (Fin R148 Q) (args ++ List.replicate (R148.ntmps - args.length) undef) H) : ACall Go.Proofs.Tryz.prog 148 args H Q := acall_intro mo Go.Proofs.Tryz.func148 c148 h

def R149 : RFunc :=
  ⟨(.seq (.ops [⟨(some 4), (.mov (.const (.int .i64 0))), none⟩]) (.seq (.seq (.ops [⟨(some 6), (.mov (.tmp 0)), none⟩, ⟨(some 7), (.len (.tmp 6)), none⟩, ⟨(some 8), (.mov (.const (.int .i64 0))), none⟩]) (.block 0 (.loop (.seq (.ops [⟨(some 9), (.cmp .lss (.tmp 8) (.tmp 7)), none⟩]) (.seq (.cond (.tmp 9) .skip (.exit 0)) (.seq (.block 1 (.seq (.ops [⟨(some 10), (.mov (.tmp 8)), none⟩, ⟨(some 5), (.mov (.tmp 10)), none⟩]) (.seq (.ops [⟨(some 11), (.mov (.tmp 1)), none⟩, ⟨(some 12), (.mov (.tmp 0)), none⟩, ⟨(some 13), (.mov (.tmp 5)), none⟩, ⟨(some 14), (.idxAddr 1 (.tmp 12) (.tmp 13)), none⟩, ⟨(some 15), (.load (.tmp 14)), none⟩, ⟨(some 16), (.call (.tmp 11) [(.tmp 15)]), none⟩]) (.cond (.tmp 16) (.seq (.ops [⟨(some 17), (.mov (.tmp 5)), none⟩, ⟨(some 4), (.mov (.tmp 17)), none⟩]) .ret) .skip)))) (.ops [⟨(some 18), (.arith .add (.tmp 8) (.const (.int .i64 1))), none⟩, ⟨(some 8), (.mov (.tmp 18)), none⟩]))))))) (.seq (.ops [⟨(some 4), (.mov (.const (.int .i64 (-1)))), none⟩]) .ret))), 19, [(.tmp 4)]⟩
theorem c149 : compileFn Go.Proofs.Tryz.prog Go.Proofs.Tryz.f149 = some R149 := by kernel_rfl
theorem n149 : R149.ntmps = 19 := rfl
theorem a149 {args : List Value} {H : AHeap} {Q : Value → AHeap → Prop} (h : AWP Go.Proofs.Tryz.prog none R149.code (Fin R149 Q) (args ++ List.replicate (R149.ntmps - args.length) undef) H) : ACall Go.Proofs.Tryz.prog 149 args H Q := acall_intro mo Go.Proofs.Tryz.func149 c149 h

def R155 : RFunc :=
  ⟨(.seq (.ops [⟨(some 4), (.mov (.const (.int .i64 0))), none⟩]) (.seq (.ops [⟨(some 14), (.mov (.tmp 1)), none⟩, ⟨(some 15), (.lenS (.tmp 14)), none⟩, ⟨(some 5), (.mov (.tmp 15)), none⟩]) (.seq (.block 0 (.seq (.ops [⟨(some 17), (.mov (.tmp 5)), none⟩, ⟨(some 18), (.cmp .eql (.tmp 17) (.const (.int .i64 0))), none⟩, ⟨(some 19), (.mov (.tmp 18)), none⟩, ⟨(some 20), (.mov (.tmp 1)), (some (19, false))⟩, ⟨(some 21), (.mov (.tmp 0)), (some (19, false))⟩, ⟨(some 22), (.strOp .eql (.tmp 20) (.tmp 21)), (some (19, false))⟩, ⟨(some 23), (.pick (.tmp 19) (.const (.bool true)) (.tmp 22)), none⟩, ⟨(some 16), (.mov (.tmp 23)), none⟩]) (.cond (.tmp 16) (.seq (.ops [⟨(some 4), (.mov (.const (.int .i64 0))), none⟩]) .ret) (.seq (.ops [⟨(some 25), (.mov (.tmp 5)), none⟩, ⟨(some 26), (.cmp .eql (.tmp 25) (.const (.int .i64 1))), none⟩, ⟨(some 24), (.mov (.tmp 26)), none⟩]) (.cond (.tmp 24) (.seq (.ops [⟨(some 27), (.mov (.tmp 0)), none⟩, ⟨(some 28), (.mov (.tmp 1)), none⟩, ⟨(some 29), (.idxS (.tmp 28) (.const (.int .i64 0))), none⟩, ⟨(some 30), (.call (.func 183) [(.tmp 27), (.tmp 29)]), none⟩, ⟨(some 4), (.mov (.tmp 30)), none⟩]) .ret) (.seq (.ops [⟨(some 32), (.mov (.tmp 5)), none⟩, ⟨(some 33), (.mov (.tmp 0)), none⟩, ⟨(some 34), (.lenS (.tmp 33)), none⟩, ⟨(some 35), (.cmp .geq (.tmp 32) (.tmp 34)), none⟩, ⟨(some 31), (.mov (.tmp 35)), none⟩]) (.cond (.tmp 31) (.seq (.ops [⟨(some 4), (.mov (.const (.int .i64 (-1)))), none⟩]) .ret) (.seq (.ops [⟨(some 37), (.mov (.tmp 5)), none⟩, ⟨(some 38), (.load (.global 5)), none⟩, ⟨(some 39), (.cmp .leq (.tmp 37) (.tmp 38)), none⟩, ⟨(some 40), (.mov (.tmp 39)), none⟩, ⟨(some 41), (.mov (.tmp 0)), (some (40, true))⟩, ⟨(some 42), (.lenS (.tmp 41)), (some (40, true))⟩, ⟨(some 43), (.cmp .leq (.tmp 42) (.const (.int .i64 64))), (some (40, true))⟩, ⟨(some 44), (.pick (.tmp 40) (.tmp 43) (.const (.bool false))), none⟩, ⟨(some 36), (.mov (.tmp 44)), none⟩]) (.cond (.tmp 36) (.seq (.ops [⟨(some 45), (.mov (.tmp 0)), none⟩, ⟨(some 46), (.mov (.tmp 1)), none⟩, ⟨(some 47), (.call (.func 184) [(.tmp 45), (.tmp 46)]), none⟩, ⟨(some 4), (.mov (.tmp 47)), none⟩]) .ret) .skip))))))))) (.seq (.ops [⟨(some 48), (.mov (.tmp 1)), none⟩, ⟨(some 49), (.idxS (.tmp 48) (.const (.int .i64 0))), none⟩, ⟨(some 6), (.mov (.tmp 49)), none⟩]) (.seq (.ops [⟨(some 50), (.mov (.tmp 1)), none⟩, ⟨(some 51), (.idxS (.tmp 50) (.const (.int .i64 1))), none⟩, ⟨(some 7), (.mov (.tmp 51)), none⟩]) (.seq (.ops [⟨(some 8), (.mov (.const (.int .i64 0))), none⟩]) (.seq (.ops [⟨(some 52), (.mov (.tmp 0)), none⟩, ⟨(some 53), (.lenS (.tmp 52)), none⟩, ⟨(some 54), (.mov (.tmp 5)), none⟩, ⟨(some 55), (.arith .sub (.tmp 53) (.tmp 54)), none⟩, ⟨(some 56), (.arith .add (.tmp 55) (.const (.int .i64 1))), none⟩, ⟨(some 9), (.mov (.tmp 56)), none⟩]) (.seq (.ops [⟨(some 10), (.mov (.const (.int .i64 0))), none⟩]) (.seq (.block 1 (.loop (.seq (.seq (.ops [⟨(some 57), (.mov (.tmp 8)), none⟩, ⟨(some 58), (.mov (.tmp 9)), none⟩, ⟨(some 59), (.cmp .lss (.tmp 57) (.tmp 58)), none⟩]) (.cond (.tmp 59) .skip (.exit 1))) (.block 2 (.seq (.seq (.ops [⟨(some 60), (.mov (.tmp 0)), none⟩, ⟨(some 61), (.mov (.tmp 8)), none⟩, ⟨(some 62), (.idxS (.tmp 60) (.tmp 61)), none⟩, ⟨(some 63), (.mov (.tmp 6)), none⟩, ⟨(some 64), (.cmp .neq (.tmp 62) (.tmp 63)), none⟩]) (.cond (.tmp 64) (.seq (.ops [⟨(some 65), (.mov (.tmp 0)), none⟩, ⟨(some 66), (.mov (.tmp 8)), none⟩, ⟨(some 67), (.arith .add (.tmp 66) (.const (.int .i64 1))), none⟩, ⟨(some 68), (.mov (.tmp 9)), none⟩, ⟨(some 69), (.sliceS (.tmp 65) (some (.tmp 67)) (some (.tmp 68))), none⟩, ⟨(some 70), (.mov (.tmp 6)), none⟩, ⟨(some 71), (.call (.func 183) [(.tmp 69), (.tmp 70)]), none⟩, ⟨(some 11), (.mov (.tmp 71)), none⟩]) (.seq (.seq (.ops [⟨(some 72), (.mov (.tmp 11)), none⟩, ⟨(some 73), (.cmp .lss (.tmp 72) (.const (.int .i64 0))), none⟩]) (.cond (.tmp 73) (.seq (.ops [⟨(some 4), (.mov (.const (.int .i64 (-1)))), none⟩]) .ret) .skip)) (.ops [⟨(some 74), (.mov (.tmp 8)), none⟩, ⟨(some 75), (.mov (.tmp 11)), none⟩, ⟨(some 76), (.arith .add (.tmp 75) (.const (.int .i64 1))), none⟩, ⟨(some 77), (.arith .add (.tmp 74) (.tmp 76)), none⟩, ⟨(some 8), (.mov (.tmp 77)), none⟩]))) .skip)) (.seq (.seq (.ops [⟨(some 78), (.mov (.tmp 0)), none⟩, ⟨(some 79), (.mov (.tmp 8)), none⟩, ⟨(some 80), (.arith .add (.tmp 79) (.const (.int .i64 1))), none⟩, ⟨(some 81), (.idxS (.tmp 78) (.tmp 80)), none⟩, ⟨(some 82), (.mov (.tmp 7)), none⟩, ⟨(some 83), (.cmp .eql (.tmp 81) (.tmp 82)), none⟩, ⟨(some 84), (.mov (.tmp 83)), none⟩, ⟨(some 85), (.mov (.tmp 0)), (some (84, true))⟩, ⟨(some 86), (.mov (.tmp 8)), (some (84, true))⟩, ⟨(some 87), (.mov (.tmp 8)), (some (84, true))⟩, ⟨(some 88), (.mov (.tmp 5)), (some (84, true))⟩, ⟨(some 89), (.arith .add (.tmp 87) (.tmp 88)), (some (84, true))⟩, ⟨(some 90), (.sliceS (.tmp 85) (some (.tmp 86)) (some (.tmp 89))), (some (84, true))⟩, ⟨(some 91), (.mov (.tmp 1)), (some (84, true))⟩, ⟨(some 92), (.strOp .eql (.tmp 90) (.tmp 91)), (some (84, true))⟩, ⟨(some 93), (.pick (.tmp 84) (.tmp 92) (.const (.bool false))), none⟩]) (.cond (.tmp 93) (.seq (.ops [⟨(some 94), (.mov (.tmp 8)), none⟩, ⟨(some 4), (.mov (.tmp 94)), none⟩]) .ret) .skip)) (.seq (.ops [⟨(some 95), (.mov (.tmp 8)), none⟩, ⟨(some 96), (.arith .add (.tmp 95) (.const (.int .i64 1))), none⟩, ⟨(some 8), (.mov (.tmp 96)), none⟩]) (.seq (.ops [⟨(some 97), (.mov (.tmp 10)), none⟩, ⟨(some 98), (.arith .add (.tmp 97) (.const (.int .i64 1))), none⟩, ⟨(some 10), (.mov (.tmp 98)), none⟩]) (.seq (.ops [⟨(some 99), (.mov (.tmp 5)), none⟩, ⟨(some 100), (.load (.global 5)), none⟩, ⟨(some 101), (.cmp .leq (.tmp 99) (.tmp 100)), none⟩, ⟨(some 102), (.mov (.tmp 101)), none⟩, ⟨(some 103), (.mov (.tmp 10)), (some (102, true))⟩, ⟨(some 104), (.mov (.tmp 8)), (some (102, true))⟩, ⟨(some 105), (.call (.func 185) [(.tmp 104)]), (some (102, true))⟩, ⟨(some 106), (.cmp .gtr (.tmp 103) (.tmp 105)), (some (102, true))⟩, ⟨(some 107), (.pick (.tmp 102) (.tmp 106) (.const (.bool false))), none⟩]) (.cond (.tmp 107) (.seq (.ops [⟨(some 108), (.mov (.tmp 0)), none⟩, ⟨(some 109), (.mov (.tmp 8)), none⟩, ⟨(some 110), (.sliceS (.tmp 108) (some (.tmp 109)) none), none⟩, ⟨(some 111), (.mov (.tmp 1)), none⟩, ⟨(some 112), (.call (.func 184) [(.tmp 110), (.tmp 111)]), none⟩, ⟨(some 12), (.mov (.tmp 112)), none⟩]) (.seq (.seq (.ops [⟨(some 113), (.mov (.tmp 12)), none⟩, ⟨(some 114), (.cmp .geq (.tmp 113) (.const (.int .i64 0))), none⟩]) (.cond (.tmp 114) (.seq (.ops [⟨(some 115), (.mov (.tmp 12)), none⟩, ⟨(some 116), (.mov (.tmp 8)), none⟩, ⟨(some 117), (.arith .add (.tmp 115) (.tmp 116)), none⟩, ⟨(some 4), (.mov (.tmp 117)), none⟩]) .ret) .skip)) (.seq (.ops [⟨(some 4), (.mov (.const (.int .i64 (-1)))), none⟩]) .ret))) (.seq (.ops [⟨(some 118), (.mov (.tmp 5)), none⟩, ⟨(some 119), (.load (.global 5)), none⟩, ⟨(some 120), (.cmp .gtr (.tmp 118) (.tmp 119)), none⟩, ⟨(some 121), (.mov (.tmp 120)), none⟩, ⟨(some 122), (.mov (.tmp 10)), (some (121, true))⟩, ⟨(some 123), (.mov (.tmp 8)), (some (121, true))⟩, ⟨(some 124), (.shr (.tmp 123) (.const (.int .u64 4))), (some (121, true))⟩, ⟨(some 125), (.arith .add (.const (.int .i64 4)) (.tmp 124)), (some (121, true))⟩, ⟨(some 126), (.cmp .geq (.tmp 122) (.tmp 125)), (some (121, true))⟩, ⟨(some 127), (.pick (.tmp 121) (.tmp 126) (.const (.bool false))), none⟩, ⟨(some 128), (.mov (.tmp 127)), none⟩, ⟨(some 129), (.mov (.tmp 8)), (some (128, true))⟩, ⟨(some 130), (.mov (.tmp 9)), (some (128, true))⟩, ⟨(some 131), (.cmp .lss (.tmp 129) (.tmp 130)), (some (128, true))⟩, ⟨(some 132), (.pick (.tmp 128) (.tmp 131) (.const (.bool false))), none⟩]) (.cond (.tmp 132) (.seq (.ops [⟨(some 133), (.mov (.tmp 0)), none⟩, ⟨(some 134), (.mov (.tmp 8)), none⟩, ⟨(some 135), (.sliceS (.tmp 133) (some (.tmp 134)) none), none⟩, ⟨(some 136), (.mov (.tmp 1)), none⟩, ⟨(some 137), (.call (.func 186) [(.tmp 135), (.tmp 136)]), none⟩, ⟨(some 13), (.mov (.tmp 137)), none⟩]) (.seq (.seq (.ops [⟨(some 138), (.mov (.tmp 13)), none⟩, ⟨(some 139), (.cmp .lss (.tmp 138) (.const (.int .i64 0))), none⟩]) (.cond (.tmp 139) (.seq (.ops [⟨(some 4), (.mov (.const (.int .i64 (-1)))), none⟩]) .ret) .skip)) (.seq (.ops [⟨(some 140), (.mov (.tmp 8)), none⟩, ⟨(some 141), (.mov (.tmp 13)), none⟩, ⟨(some 142), (.arith .add (.tmp 140) (.tmp 141)), none⟩, ⟨(some 4), (.mov (.tmp 142)), none⟩]) .ret))) .skip)))))))))))) (.seq (.ops [⟨(some 4), (.mov (.const (.int .i64 (-1)))), none⟩]) .ret)))))))))), 143, [(.tmp 4)]⟩
theorem c155 : compileFn Go.Proofs.Tryz.prog Go.Proofs.Tryz.f155 = some R155 := by kernel_rfl
theorem n155 : R155.ntmps = 143 := rfl
theorem a155 {args : List Value} {H : AHeap} {Q : Value → AHeap → Prop} (h : AWP Go.Proofs.Tryz.prog none R155.code (Fin R155 Q) (args ++ List.replicate (R155.ntmps - args.length) undef) H) : ACall Go.Proofs.Tryz.prog 155 args H Q := acall_intro mo Go.Proofs.Tryz.func155 c155 h

def R164 : RFunc :=
  ⟨(.seq (.ops [⟨(some 3), (.mov (.const (.bool false))), none⟩]) (.seq (.ops [⟨(some 4), (.mov (.tmp 0)), none⟩, ⟨(some 5), (.load (.tmp 1)), none⟩, ⟨(some 6), (.call (.func 77) [(.tmp 4), (.const (.int .i64 0)), (.tmp 5)]), none⟩, ⟨(some 7), (.not (.tmp 6)), none⟩, ⟨(some 3), (.mov (.tmp 7)), none⟩]) .ret)), 8, [(.tmp 3)]⟩
theorem c164 : compileFn Go.Proofs.Tryz.prog Go.Proofs.Tryz.f164 = some R164 := by kernel_rfl
theorem n164 : R164.ntmps = 8 := rfl
theorem a164 {args : List Value} {H : AHeap} {Q : Value → AHeap → Prop} (h : AWP Go.Proofs.Tryz.prog none R164.code (Fin R164 Q) (args ++ List.replicate (R164.ntmps - args.length) undef) H) : ACall Go.Proofs.Tryz.prog 164 args H Q := acall_intro mo Go.Proofs.Tryz.func164 c164 h

def R165 : RFunc :=
  ⟨(.seq (.ops [⟨(some 7), (.fieldAddr 0 (.tmp 1)), none⟩, ⟨(some 8), (.load (.tmp 7)), none⟩, ⟨(some 9), (.load (.tmp 2)), none⟩, ⟨(some 10), (.arith .add (.tmp 8) (.tmp 9)), none⟩, ⟨(some 11), (.fieldAddr 1 (.tmp 1)), none⟩, ⟨(some 12), (.load (.tmp 11)), none⟩, ⟨(some 13), (.build [(.int .i64 0), (.int .i64 0)] [(0, (1, (.tmp 10))), (1, (1, (.tmp 12)))]), none⟩, ⟨(some 4), (.new [(.int .i64 0), (.int .i64 0)]), none⟩, ⟨none, (.store 2 (.tmp 4) (.tmp 13)), none⟩]) (.seq (.ops [⟨(some 14), (.loadN 15 (.global 2)), none⟩, ⟨(some 15), (.mov (.const (.int .i64 0))), none⟩]) (.block 0 (.loop (.seq (.ops [⟨(some 16), (.cmp .lss (.tmp 15) (.const (.int .i64 5))), none⟩]) (.seq (.cond (.tmp 16) .skip (.exit 0)) (.seq (.block 1 (.seq (.ops [⟨(some 17), (.idxAN 5 3 (.tmp 14) (.tmp 15)), none⟩, ⟨(some 6), (.new [(.int .i64 0), (.int .i64 0), (.int .i64 0)]), none⟩, ⟨none, (.store 3 (.tmp 6) (.tmp 17)), none⟩]) (.seq (.ops [⟨(some 18), (.fieldAddr 2 (.tmp 6)), none⟩, ⟨(some 19), (.load (.tmp 18)), none⟩, ⟨(some 20), (.load (.tmp 2)), none⟩, ⟨(some 21), (.arith .mul (.tmp 19) (.tmp 20)), none⟩, ⟨(some 22), (.mov (.const (.int .i64 0))), none⟩]) (.block 2 (.loop (.seq (.ops [⟨(some 23), (.cmp .lss (.tmp 22) (.tmp 21)), none⟩]) (.seq (.cond (.tmp 23) .skip (.exit 2)) (.seq (.block 3 (.seq (.seq (.ops [⟨(some 24), (.mov (.tmp 0)), none⟩, ⟨(some 25), (.loadN 2 (.tmp 4)), none⟩, ⟨(some 26), (.call (.tmp 24) [(.tmp 25)]), none⟩, ⟨(some 27), (.not (.tmp 26)), none⟩]) (.cond (.tmp 27) .ret .skip)) (.ops [⟨(some 28), (.fieldAddr 0 (.tmp 4)), none⟩, ⟨(some 29), (.load (.tmp 28)), none⟩, ⟨(some 30), (.fieldAddr 0 (.tmp 6)), none⟩, ⟨(some 31), (.load (.tmp 30)), none⟩, ⟨(some 32), (.arith .add (.tmp 29) (.tmp 31)), none⟩, ⟨(some 33), (.fieldAddr 1 (.tmp 4)), none⟩, ⟨(some 34), (.load (.tmp 33)), none⟩, ⟨(some 35), (.fieldAddr 1 (.tmp 6)), none⟩, ⟨(some 36), (.load (.tmp 35)), none⟩, ⟨(some 37), (.arith .add (.tmp 34) (.tmp 36)), none⟩, ⟨(some 38), (.build [(.int .i64 0), (.int .i64 0)] [(0, (1, (.tmp 32))), (1, (1, (.tmp 37)))]), none⟩, ⟨none, (.store 2 (.tmp 4) (.tmp 38)), none⟩]))) (.ops [⟨(some 39), (.arith .add (.tmp 22) (.const (.int .i64 1))), none⟩, ⟨(some 22), (.mov (.tmp 39)), none⟩]))))))))) (.ops [⟨(some 40), (.arith .add (.tmp 15) (.const (.int .i64 1))), none⟩, ⟨(some 15), (.mov (.tmp 40)), none⟩])))))))), 41, []⟩
theorem c165 : compileFn Go.Proofs.Tryz.prog Go.Proofs.Tryz.f165 = some R165 := by kernel_rfl
theorem n165 : R165.ntmps = 41 := rfl
theorem a165 {args : List Value} {H : AHeap} {Q : Value → AHeap → Prop} (h : AWP Go.Proofs.Tryz.prog none R165.code (Fin R165 Q) (args ++ List.replicate (R165.ntmps - args.length) undef) H) : ACall Go.Proofs.Tryz.prog 165 args H Q := acall_intro mo Go.Proofs.Tryz.func165 c165 h

def R166 : RFunc :=
  ⟨(.seq (.ops [⟨(some 7), (.box (.tmp 3)), none⟩, ⟨(some 8), (.mov (.const (.int .i64 0))), none⟩]) (.seq (.seq (.ops [⟨(some 13), (.mov (.tmp 0)), none⟩, ⟨(some 14), (.len (.tmp 13)), none⟩, ⟨(some 15), (.cmp .eql (.tmp 14) (.const (.int .i64 0))), none⟩, ⟨(some 16), (.mov (.tmp 15)), none⟩, ⟨(some 17), (.mov (.tmp 0)), (some (16, false))⟩, ⟨(some 18), (.idxAddr 1 (.tmp 17) (.const (.int .i64 0))), (some (16, false))⟩, ⟨(some 19), (.load (.tmp 18)), (some (16, false))⟩, ⟨(some 20), (.len (.tmp 19)), (some (16, false))⟩, ⟨(some 21), (.cmp .eql (.tmp 20) (.const (.int .i64 0))), (some (16, false))⟩, ⟨(some 22), (.pick (.tmp 16) (.const (.bool true)) (.tmp 21)), none⟩]) (.cond (.tmp 22) (.seq (.ops [⟨(some 8), (.mov (.const (.int .i64 10))), none⟩]) .ret) .skip)) (.seq (.seq (.ops [⟨(some 23), (.mov (.tmp 0)), none⟩, ⟨(some 24), (.len (.tmp 23)), none⟩, ⟨(some 25), (.mov (.tmp 1)), none⟩, ⟨(some 26), (.cmp .gtr (.tmp 24) (.tmp 25)), none⟩, ⟨(some 27), (.mov (.tmp 26)), none⟩, ⟨(some 28), (.mov (.tmp 0)), (some (27, false))⟩, ⟨(some 29), (.idxAddr 1 (.tmp 28) (.const (.int .i64 0))), (some (27, false))⟩, ⟨(some 30), (.load (.tmp 29)), (some (27, false))⟩, ⟨(some 31), (.len (.tmp 30)), (some (27, false))⟩, ⟨(some 32), (.mov (.tmp 2)), (some (27, false))⟩, ⟨(some 33), (.cmp .gtr (.tmp 31) (.tmp 32)), (some (27, false))⟩, ⟨(some 34), (.pick (.tmp 27) (.const (.bool true)) (.tmp 33)), none⟩]) (.cond (.tmp 34) (.seq (.ops [⟨(some 8), (.mov (.const (.int .i64 8))), none⟩]) .ret) .skip)) (.seq (.seq (.ops [⟨(some 35), (.mov (.tmp 0)), none⟩, ⟨(some 36), (.len (.tmp 35)), none⟩, ⟨(some 37), (.mov (.const (.int .i64 0))), none⟩]) (.block 0 (.loop (.seq (.ops [⟨(some 38), (.cmp .lss (.tmp 37) (.tmp 36)), none⟩]) (.seq (.cond (.tmp 38) .skip (.exit 0)) (.seq (.block 1 (.seq (.ops [⟨(some 39), (.idxAddr 1 (.tmp 35) (.tmp 37)), none⟩, ⟨(some 40), (.load (.tmp 39)), none⟩, ⟨(some 10), (.mov (.tmp 40)), none⟩]) (.seq (.ops [⟨(some 41), (.mov (.tmp 10)), none⟩, ⟨(some 42), (.mkFunc (.func 190) [] [(.tmp 7)]), none⟩, ⟨(some 43), (.call (.func 102) [(.tmp 41), (.tmp 42)]), none⟩, ⟨(some 11), (.mov (.tmp 43)), none⟩]) (.seq (.ops [⟨(some 44), (.mov (.tmp 10)), none⟩, ⟨(some 45), (.len (.tmp 44)), none⟩, ⟨(some 46), (.mov (.tmp 0)), none⟩, ⟨(some 47), (.idxAddr 1 (.tmp 46) (.const (.int .i64 0))), none⟩, ⟨(some 48), (.load (.tmp 47)), none⟩, ⟨(some 49), (.len (.tmp 48)), none⟩, ⟨(some 50), (.cmp .eql (.tmp 45) (.tmp 49)), none⟩, ⟨(some 51), (.call (.func 76) [(.tmp 50), (.const (.int .i64 10))]), none⟩, ⟨(some 52), (.mov (.tmp 11)), none⟩, ⟨(some 53), (.not (.tmp 52)), none⟩, ⟨(some 54), (.call (.func 76) [(.tmp 53), (.const (.int .i64 2))]), none⟩, ⟨(some 55), (.buildSlice 1 2 [(.int .i64 0), (.int .i64 0)] [(0, (1, (.tmp 51))), (1, (1, (.tmp 54)))]), none⟩, ⟨(some 56), (.call (.func 74) [(.tmp 55)]), none⟩, ⟨(some 12), (.mov (.tmp 56)), none⟩]) (.seq (.ops [⟨(some 57), (.mov (.tmp 12)), none⟩, ⟨(some 58), (.cmp .neq (.tmp 57) (.const (.int .i64 0))), none⟩]) (.cond (.tmp 58) (.seq (.ops [⟨(some 59), (.mov (.tmp 12)), none⟩, ⟨(some 8), (.mov (.tmp 59)), none⟩]) .ret) .skip)))))) (.ops [⟨(some 60), (.arith .add (.tmp 37) (.const (.int .i64 1))), none⟩, ⟨(some 37), (.mov (.tmp 60)), none⟩]))))))) (.seq (.ops [⟨(some 8), (.mov (.const (.int .i64 0))), none⟩]) .ret))))), 61, [(.tmp 8)]⟩
theorem c166 : compileFn Go.Proofs.Tryz.prog Go.Proofs.Tryz.f166 = some R166 := by kernel_rfl
theorem n166 : R166.ntmps = 61 := rfl
theorem a166 {args : List Value} {H : AHeap} {Q : Value → AHeap → Prop} (h : AWP Go.Proofs.Tryz.prog none R166.code (Fin R166 Q) (args ++ List.replicate (R166.ntmps - args.length) undef) H) : ACall Go.Proofs.Tryz.prog 166 args H Q := acall_intro mo Go.Proofs.Tryz.func166 c166 h

def R167 : RFunc :=
  ⟨(.seq (.ops [⟨(some 4), (.load (.tmp 1)), none⟩, ⟨(some 5), (.len (.tmp 4)), none⟩, ⟨(some 6), (.arith .sub (.tmp 5) (.const (.int .i64 1))), none⟩, ⟨(some 3), (.mov (.tmp 6)), none⟩]) (.block 0 (.loop (.seq (.seq (.ops [⟨(some 7), (.mov (.tmp 3)), none⟩, ⟨(some 8), (.cmp .geq (.tmp 7) (.const (.int .i64 0))), none⟩]) (.cond (.tmp 8) .skip (.exit 0))) (.seq (.block 1 (.seq (.ops [⟨(some 11), (.mov (.tmp 0)), none⟩, ⟨(some 12), (.mov (.tmp 3)), none⟩, ⟨(some 13), (.load (.tmp 1)), none⟩, ⟨(some 14), (.mov (.tmp 3)), none⟩, ⟨(some 15), (.idxAddr 1 (.tmp 13) (.tmp 14)), none⟩, ⟨(some 16), (.load (.tmp 15)), none⟩, ⟨(some 17), (.call (.tmp 11) [(.tmp 12), (.tmp 16)]), none⟩, ⟨(some 18), (.not (.tmp 17)), none⟩]) (.cond (.tmp 18) .ret .skip))) (.ops [⟨(some 9), (.mov (.tmp 3)), none⟩, ⟨(some 10), (.arith .sub (.tmp 9) (.const (.int .i64 1))), none⟩, ⟨(some 3), (.mov (.tmp 10)), none⟩])))))), 19, []⟩
theorem c167 : compileFn Go.Proofs.Tryz.prog Go.Proofs.Tryz.f167 = some R167 := by kernel_rfl
theorem n167 : R167.ntmps = 19 := rfl
theorem a167 {args : List Value} {H : AHeap} {Q : Value → AHeap → Prop} (h : AWP Go.Proofs.Tryz.prog none R167.code (Fin R167 Q) (args ++ List.replicate (R167.ntmps - args.length) undef) H) : ACall Go.Proofs.Tryz.prog 167 args H Q := acall_intro mo Go.Proofs.Tryz.func167 c167 h

def R168 : RFunc :=
  ⟨(.seq (.ops [⟨(some 4), (.mov (.const (.int .u64 0))), none⟩, ⟨(some 5), (.mov (.const (.int .u64 0))), none⟩]) (.seq (.cond (.const (.bool false)) (.seq (.ops [⟨(some 11), (.mov (.tmp 0)), none⟩, ⟨(some 12), (.conv .u32 (.tmp 11)), none⟩, ⟨(some 13), (.mov (.tmp 1)), none⟩, ⟨(some 14), (.conv .u32 (.tmp 13)), none⟩, ⟨(some 15), (.call (.func 191) [(.tmp 12), (.tmp 14)]), none⟩, ⟨(some 10), (.mov (.tmp 15)), none⟩, ⟨(some 16), (.extract (.tmp 10) 0), none⟩, ⟨(some 17), (.extract (.tmp 10) 1), none⟩, ⟨(some 6), (.mov (.tmp 16)), none⟩, ⟨(some 7), (.mov (.tmp 17)), none⟩]) (.seq (.ops [⟨(some 18), (.mov (.tmp 6)), none⟩, ⟨(some 19), (.conv .u64 (.tmp 18)), none⟩, ⟨(some 20), (.mov (.tmp 7)), none⟩, ⟨(some 21), (.conv .u64 (.tmp 20)), none⟩, ⟨(some 4), (.mov (.tmp 19)), none⟩, ⟨(some 5), (.mov (.tmp 21)), none⟩]) .ret)) .skip) (.seq (.ops [⟨(some 23), (.mov (.tmp 0)), none⟩, ⟨(some 24), (.mov (.tmp 1)), none⟩, ⟨(some 25), (.call (.func 192) [(.tmp 23), (.tmp 24)]), none⟩, ⟨(some 22), (.mov (.tmp 25)), none⟩, ⟨(some 26), (.extract (.tmp 22) 0), none⟩, ⟨(some 27), (.extract (.tmp 22) 1), none⟩, ⟨(some 8), (.mov (.tmp 26)), none⟩, ⟨(some 9), (.mov (.tmp 27)), none⟩]) (.seq (.ops [⟨(some 28), (.mov (.tmp 8)), none⟩, ⟨(some 29), (.mov (.tmp 9)), none⟩, ⟨(some 4), (.mov (.tmp 28)), none⟩, ⟨(some 5), (.mov (.tmp 29)), none⟩]) .ret)))), 30, [(.tmp 4), (.tmp 5)]⟩
theorem c168 : compileFn Go.Proofs.Tryz.prog Go.Proofs.Tryz.f168 = some R168 := by kernel_rfl
theorem n168 : R168.ntmps = 30 := rfl
theorem a168 {args : List Value} {H : AHeap} {Q : Value → AHeap → Prop} (h : AWP Go.Proofs.Tryz.prog none R168.code (Fin R168 Q) (args ++ List.replicate (R168.ntmps - args.length) undef) H) : ACall Go.Proofs.Tryz.prog 168 args H Q := acall_intro mo Go.Proofs.Tryz.func168 c168 h

def R169 : RFunc :=
  ⟨(.seq (.ops [⟨(some 5), (.load (.tmp 1)), none⟩, ⟨(some 6), (.arith .sub (.tmp 5) (.const (.int .i64 1))), none⟩, ⟨(some 7), (.most true (.const (.int .i64 0)) [(.tmp 6)]), none⟩, ⟨(some 4), (.mov (.tmp 7)), none⟩]) (.block 0 (.loop (.seq (.seq (.draw [(⟨(some 8), (.mov (.tmp 4)), none⟩, false), (⟨(some 9), (.load (.tmp 1)), none⟩, false), (⟨(some 10), (.arith .add (.tmp 9) (.const (.int .i64 1))), none⟩, false), (⟨(some 11), (.loadN 2 (.tmp 2)), none⟩, false), (⟨(some 12), (.call (.func 87) [(.tmp 11)]), none⟩, false), (⟨(some 13), (.arith .sub (.tmp 12) (.const (.int .i64 1))), none⟩, false), (⟨(some 14), (.most false (.tmp 10) [(.tmp 13)]), none⟩, false), (⟨(some 15), (.cmp .leq (.tmp 8) (.tmp 14)), none⟩, false)]) (.cond (.tmp 15) .skip (.exit 0))) (.seq (.block 1 (.seq (.ops [⟨(some 18), (.mov (.tmp 0)), none⟩, ⟨(some 19), (.mov (.tmp 4)), none⟩, ⟨(some 20), (.call (.tmp 18) [(.tmp 19)]), none⟩, ⟨(some 21), (.not (.tmp 20)), none⟩]) (.cond (.tmp 21) .ret .skip))) (.ops [⟨(some 16), (.mov (.tmp 4)), none⟩, ⟨(some 17), (.arith .add (.tmp 16) (.const (.int .i64 1))), none⟩, ⟨(some 4), (.mov (.tmp 17)), none⟩])))))), 22, []⟩
theorem c169 : compileFn Go.Proofs.Tryz.prog Go.Proofs.Tryz.f169 = some R169 := by kernel_rfl
theorem n169 : R169.ntmps = 22 := rfl
theorem a169 {args : List Value} {H : AHeap} {Q : Value → AHeap → Prop} (h : AWP Go.Proofs.Tryz.prog none R169.code (Fin R169 Q) (args ++ List.replicate (R169.ntmps - args.length) undef) H) : ACall Go.Proofs.Tryz.prog 169 args H Q := acall_intro mo Go.Proofs.Tryz.func169 c169 h

def R170 : RFunc :=
  ⟨(.seq (.ops [⟨(some 2), (.mov (.const (.string ⟨#[]⟩))), none⟩]) (.seq (.seq (.ops [⟨(some 3), (.mov (.tmp 0)), none⟩, ⟨(some 4), (.cmp .lss (.tmp 3) (.const (.int .i64 10))), none⟩]) (.cond (.tmp 4) (.seq (.ops [⟨(some 5), (.mov (.tmp 0)), none⟩, ⟨(some 6), (.mov (.tmp 0)), none⟩, ⟨(some 7), (.arith .add (.tmp 6) (.const (.int .i64 1))), none⟩, ⟨(some 8), (.sliceS (.const (.string ⟨#[48, 49, 50, 51, 52, 53, 54, 55, 56, 57, 97, 98, 99, 100, 101, 102, 103, 104, 105, 106, 107, 108, 109, 110, 111, 112, 113, 114, 115, 116, 117, 118, 119, 120, 121, 122]⟩)) (some (.tmp 5)) (some (.tmp 7))), none⟩, ⟨(some 2), (.mov (.tmp 8)), none⟩]) .ret) .skip)) (.seq (.ops [⟨(some 9), (.mov (.tmp 0)), none⟩, ⟨(some 10), (.arith .mul (.tmp 9) (.const (.int .i64 2))), none⟩, ⟨(some 11), (.mov (.tmp 0)), none⟩, ⟨(some 12), (.arith .mul (.tmp 11) (.const (.int .i64 2))), none⟩, ⟨(some 13), (.arith .add (.tmp 12) (.const (.int .i64 2))), none⟩, ⟨(some 14), (.sliceS (.const (.string ⟨#[48, 48, 48, 49, 48, 50, 48, 51, 48, 52, 48, 53, 48, 54, 48, 55, 48, 56, 48, 57, 49, 48, 49, 49, 49, 50, 49, 51, 49, 52, 49, 53, 49, 54, 49, 55, 49, 56, 49, 57, 50, 48, 50, 49, 50, 50, 50, 51, 50, 52, 50, 53, 50, 54, 50, 55, 50, 56, 50, 57, 51, 48, 51, 49, 51, 50, 51, 51, 51, 52, 51, 53, 51, 54, 51, 55, 51, 56, 51, 57, 52, 48, 52, 49, 52, 50, 52, 51, 52, 52, 52, 53, 52, 54, 52, 55, 52, 56, 52, 57, 53, 48, 53, 49, 53, 50, 53, 51, 53, 52, 53, 53, 53, 54, 53, 55, 53, 56, 53, 57, 54, 48, 54, 49, 54, 50, 54, 51, 54, 52, 54, 53, 54, 54, 54, 55, 54, 56, 54, 57, 55, 48, 55, 49, 55, 50, 55, 51, 55, 52, 55, 53, 55, 54, 55, 55, 55, 56, 55, 57, 56, 48, 56, 49, 56, 50, 56, 51, 56, 52, 56, 53, 56, 54, 56, 55, 56, 56, 56, 57, 57, 48, 57, 49, 57, 50, 57, 51, 57, 52, 57, 53, 57, 54, 57, 55, 57, 56, 57, 57]⟩)) (some (.tmp 10)) (some (.tmp 13))), none⟩, ⟨(some 2), (.mov (.tmp 14)), none⟩]) .ret))), 15, [(.tmp 2)]⟩
theorem c170 : compileFn Go.Proofs.Tryz.prog Go.Proofs.Tryz.f170 = some R170 := by kernel_rfl
theorem n170 : R170.ntmps = 15 := rfl
theorem a170 {args : List Value} {H : AHeap} {Q : Value → AHeap → Prop} (h : AWP Go.Proofs.Tryz.prog none R170.code (Fin R170 Q) (args ++ List.replicate (R170.ntmps - args.length) undef) H) : ACall Go.Proofs.Tryz.prog 170 args H Q := acall_intro mo Go.Proofs.Tryz.func170 c170 h

def R171 : RFunc :=
  ⟨(.seq (.ops [⟨(some 2), (.mov (.const (.int .i64 0))), none⟩]) (.seq (.ops [⟨(some 4), (.mov (.tmp 0)), none⟩, ⟨(some 5), (.call (.func 194) [(.tmp 4)]), none⟩, ⟨(some 6), (.call (.func 193) [(.tmp 5)]), none⟩, ⟨(some 3), (.mov (.tmp 6)), none⟩]) (.seq (.ops [⟨(some 7), (.mov (.tmp 3)), none⟩, ⟨(some 8), (.mov (.tmp 0)), none⟩, ⟨(some 9), (.mov (.tmp 3)), none⟩, ⟨(some 10), (.idxAddrA 20 1 (.global 6) (.tmp 9)), none⟩, ⟨(some 11), (.load (.tmp 10)), none⟩, ⟨(some 12), (.cmp .geq (.tmp 8) (.tmp 11)), none⟩, ⟨(some 13), (.call (.func 195) [(.tmp 12)]), none⟩, ⟨(some 14), (.arith .add (.tmp 7) (.tmp 13)), none⟩, ⟨(some 2), (.mov (.tmp 14)), none⟩]) .ret))), 15, [(.tmp 2)]⟩
theorem c171 : compileFn Go.Proofs.Tryz.prog Go.Proofs.Tryz.f171 = some R171 := by kernel_rfl
theorem n171 : R171.ntmps = 15 := rfl
theorem a171 {args : List Value} {H : AHeap} {Q : Value → AHeap → Prop} (h : AWP Go.Proofs.Tryz.prog none R171.code (Fin R171 Q) (args ++ List.replicate (R171.ntmps - args.length) undef) H) : ACall Go.Proofs.Tryz.prog 171 args H Q := acall_intro mo Go.Proofs.Tryz.func171 c171 h

def R172 : RFunc :=
  ⟨(.seq (.ops [⟨(some 17), (.mov (.tmp 0)), none⟩, ⟨(some 18), (.len (.tmp 17)), none⟩, ⟨(some 4), (.mov (.tmp 18)), none⟩]) (.seq (.block 0 (.loop (.seq (.seq (.ops [⟨(some 19), (.mov (.tmp 4)), none⟩, ⟨(some 20), (.cmp .geq (.tmp 19) (.const (.int .i64 8))), none⟩]) (.cond (.tmp 20) .skip (.exit 0))) (.block 1 (.seq (.ops [⟨(some 21), (.mov (.tmp 1)), none⟩, ⟨(some 22), (.arith .rem (.tmp 21) (.const (.int .u64 100000000))), none⟩, ⟨(some 23), (.conv .u32 (.tmp 22)), none⟩, ⟨(some 5), (.mov (.tmp 23)), none⟩]) (.seq (.ops [⟨(some 24), (.mov (.tmp 1)), none⟩, ⟨(some 25), (.arith .quo (.tmp 24) (.const (.int .u64 100000000))), none⟩, ⟨(some 1), (.mov (.tmp 25)), none⟩]) (.seq (.ops [⟨(some 26), (.mov (.tmp 5)), none⟩, ⟨(some 27), (.arith .quo (.tmp 26) (.const (.int .u32 10000))), none⟩, ⟨(some 28), (.mov (.tmp 5)), none⟩, ⟨(some 29), (.arith .rem (.tmp 28) (.const (.int .u32 10000))), none⟩, ⟨(some 6), (.mov (.tmp 27)), none⟩, ⟨(some 7), (.mov (.tmp 29)), none⟩]) (.seq (.ops [⟨(some 30), (.mov (.tmp 7)), none⟩, ⟨(some 31), (.arith .quo (.tmp 30) (.const (.int .u32 100))), none⟩, ⟨(some 32), (.arith .mul (.tmp 31) (.const (.int .u32 2))), none⟩, ⟨(some 33), (.mov (.tmp 7)), none⟩, ⟨(some 34), (.arith .rem (.tmp 33) (.const (.int .u32 100))), none⟩, ⟨(some 35), (.arith .mul (.tmp 34) (.const (.int .u32 2))), none⟩, ⟨(some 8), (.mov (.tmp 32)), none⟩, ⟨(some 9), (.mov (.tmp 35)), none⟩]) (.seq (.ops [⟨(some 36), (.mov (.tmp 6)), none⟩, ⟨(some 37), (.arith .quo (.tmp 36) (.const (.int .u32 100))), none⟩, ⟨(some 38), (.arith .mul (.tmp 37) (.const (.int .u32 2))), none⟩, ⟨(some 39), (.mov (.tmp 6)), none⟩, ⟨(some 40), (.arith .rem (.tmp 39) (.const (.int .u32 100))), none⟩, ⟨(some 41), (.arith .mul (.tmp 40) (.const (.int .u32 2))), none⟩, ⟨(some 10), (.mov (.tmp 38)), none⟩, ⟨(some 11), (.mov (.tmp 41)), none⟩]) (.seq (.draw [(⟨(some 42), (.mov (.tmp 0)), none⟩, false), (⟨(some 43), (.mov (.tmp 4)), none⟩, false), (⟨(some 44), (.arith .sub (.tmp 43) (.const (.int .i64 1))), none⟩, false), (⟨(some 45), (.mov (.tmp 0)), none⟩, false), (⟨(some 46), (.mov (.tmp 4)), none⟩, false), (⟨(some 47), (.arith .sub (.tmp 46) (.const (.int .i64 2))), none⟩, false), (⟨(some 48), (.mov (.tmp 9)), none⟩, false), (⟨(some 49), (.arith .add (.tmp 48) (.const (.int .u32 1))), none⟩, false), (⟨(some 50), (.idxS (.const (.string ⟨#[48, 48, 48, 49, 48, 50, 48, 51, 48, 52, 48, 53, 48, 54, 48, 55, 48, 56, 48, 57, 49, 48, 49, 49, 49, 50, 49, 51, 49, 52, 49, 53, 49, 54, 49, 55, 49, 56, 49, 57, 50, 48, 50, 49, 50, 50, 50, 51, 50, 52, 50, 53, 50, 54, 50, 55, 50, 56, 50, 57, 51, 48, 51, 49, 51, 50, 51, 51, 51, 52, 51, 53, 51, 54, 51, 55, 51, 56, 51, 57, 52, 48, 52, 49, 52, 50, 52, 51, 52, 52, 52, 53, 52, 54, 52, 55, 52, 56, 52, 57, 53, 48, 53, 49, 53, 50, 53, 51, 53, 52, 53, 53, 53, 54, 53, 55, 53, 56, 53, 57, 54, 48, 54, 49, 54, 50, 54, 51, 54, 52, 54, 53, 54, 54, 54, 55, 54, 56, 54, 57, 55, 48, 55, 49, 55, 50, 55, 51, 55, 52, 55, 53, 55, 54, 55, 55, 55, 56, 55, 57, 56, 48, 56, 49, 56, 50, 56, 51, 56, 52, 56, 53, 56, 54, 56, 55, 56, 56, 56, 57, 57, 48, 57, 49, 57, 50, 57, 51, 57, 52, 57, 53, 57, 54, 57, 55, 57, 56, 57, 57]⟩)) (.tmp 49)), none⟩, false), (⟨(some 51), (.mov (.tmp 9)), none⟩, false), (⟨(some 52), (.idxS (.const (.string ⟨#[48, 48, 48, 49, 48, 50, 48, 51, 48, 52, 48, 53, 48, 54, 48, 55, 48, 56, 48, 57, 49, 48, 49, 49, 49, 50, 49, 51, 49, 52, 49, 53, 49, 54, 49, 55, 49, 56, 49, 57, 50, 48, 50, 49, 50, 50, 50, 51, 50, 52, 50, 53, 50, 54, 50, 55, 50, 56, 50, 57, 51, 48, 51, 49, 51, 50, 51, 51, 51, 52, 51, 53, 51, 54, 51, 55, 51, 56, 51, 57, 52, 48, 52, 49, 52, 50, 52, 51, 52, 52, 52, 53, 52, 54, 52, 55, 52, 56, 52, 57, 53, 48, 53, 49, 53, 50, 53, 51, 53, 52, 53, 53, 53, 54, 53, 55, 53, 56, 53, 57, 54, 48, 54, 49, 54, 50, 54, 51, 54, 52, 54, 53, 54, 54, 54, 55, 54, 56, 54, 57, 55, 48, 55, 49, 55, 50, 55, 51, 55, 52, 55, 53, 55, 54, 55, 55, 55, 56, 55, 57, 56, 48, 56, 49, 56, 50, 56, 51, 56, 52, 56, 53, 56, 54, 56, 55, 56, 56, 56, 57, 57, 48, 57, 49, 57, 50, 57, 51, 57, 52, 57, 53, 57, 54, 57, 55, 57, 56, 57, 57]⟩)) (.tmp 51)), none⟩, false), (⟨(some 53), (.idxAddr 1 (.tmp 42) (.tmp 44)), none⟩, false), (⟨none, (.store 1 (.tmp 53) (.tmp 50)), none⟩, false), (⟨(some 54), (.idxAddr 1 (.tmp 45) (.tmp 47)), none⟩, false), (⟨none, (.store 1 (.tmp 54) (.tmp 52)), none⟩, false)]) (.seq (.draw [(⟨(some 55), (.mov (.tmp 0)), none⟩, false), (⟨(some 56), (.mov (.tmp 4)), none⟩, false), (⟨(some 57), (.arith .sub (.tmp 56) (.const (.int .i64 3))), none⟩, false), (⟨(some 58), (.mov (.tmp 0)), none⟩, false), (⟨(some 59), (.mov (.tmp 4)), none⟩, false), (⟨(some 60), (.arith .sub (.tmp 59) (.const (.int .i64 4))), none⟩, false), (⟨(some 61), (.mov (.tmp 8)), none⟩, false), (⟨(some 62), (.arith .add (.tmp 61) (.const (.int .u32 1))), none⟩, false), (⟨(some 63), (.idxS (.const (.string ⟨#[48, 48, 48, 49, 48, 50, 48, 51, 48, 52, 48, 53, 48, 54, 48, 55, 48, 56, 48, 57, 49, 48, 49, 49, 49, 50, 49, 51, 49, 52, 49, 53, 49, 54, 49, 55, 49, 56, 49, 57, 50, 48, 50, 49, 50, 50, 50, 51, 50, 52, 50, 53, 50, 54, 50, 55, 50, 56, 50, 57, 51, 48, 51, 49, 51, 50, 51, 51, 51, 52, 51, 53, 51, 54, 51, 55, 51, 56, 51, 57, 52, 48, 52, 49, 52, 50, 52, 51, 52, 52, 52, 53, 52, 54, 52, 55, 52, 56, 52, 57, 53, 48, 53, 49, 53, 50, 53, 51, 53, 52, 53, 53, 53, 54, 53, 55, 53, 56, 53, 57, 54, 48, 54, 49, 54, 50, 54, 51, 54, 52, 54, 53, 54, 54, 54, 55, 54, 56, 54, 57, 55, 48, 55, 49, 55, 50, 55, 51, 55, 52, 55, 53, 55, 54, 55, 55, 55, 56, 55, 57, 56, 48, 56, 49, 56, 50, 56, 51, 56, 52, 56, 53, 56, 54, 56, 55, 56, 56, 56, 57, 57, 48, 57, 49, 57, 50, 57, 51, 57, 52, 57, 53, 57, 54, 57, 55, 57, 56, 57, 57]⟩)) (.tmp 62)), none⟩, false), (⟨(some 64), (.mov (.tmp 8)), none⟩, false), (⟨(some 65), (.idxS (.const (.string ⟨#[48, 48, 48, 49, 48, 50, 48, 51, 48, 52, 48, 53, 48, 54, 48, 55, 48, 56, 48, 57, 49, 48, 49, 49, 49, 50, 49, 51, 49, 52, 49, 53, 49, 54, 49, 55, 49, 56, 49, 57, 50, 48, 50, 49, 50, 50, 50, 51, 50, 52, 50, 53, 50, 54, 50, 55, 50, 56, 50, 57, 51, 48, 51, 49, 51, 50, 51, 51, 51, 52, 51, 53, 51, 54, 51, 55, 51, 56, 51, 57, 52, 48, 52, 49, 52, 50, 52, 51, 52, 52, 52, 53, 52, 54, 52, 55, 52, 56, 52, 57, 53, 48, 53, 49, 53, 50, 53, 51, 53, 52, 53, 53, 53, 54, 53, 55, 53, 56, 53, 57, 54, 48, 54, 49, 54, 50, 54, 51, 54, 52, 54, 53, 54, 54, 54, 55, 54, 56, 54, 57, 55, 48, 55, 49, 55, 50, 55, 51, 55, 52, 55, 53, 55, 54, 55, 55, 55, 56, 55, 57, 56, 48, 56, 49, 56, 50, 56, 51, 56, 52, 56, 53, 56, 54, 56, 55, 56, 56, 56, 57, 57, 48, 57, 49, 57, 50, 57, 51, 57, 52, 57, 53, 57, 54, 57, 55, 57, 56, 57, 57]⟩)) (.tmp 64)), none⟩, false), (⟨(some 66), (.idxAddr 1 (.tmp 55) (.tmp 57)), none⟩, false), (⟨none, (.store 1 (.tmp 66) (.tmp 63)), none⟩, false), (⟨(some 67), (.idxAddr 1 (.tmp 58) (.tmp 60)), none⟩, false), (⟨none, (.store 1 (.tmp 67) (.tmp 65)), none⟩, false)]) (.seq (.draw [(⟨(some 68), (.mov (.tmp 0)), none⟩, false), (⟨(some 69), (.mov (.tmp 4)), none⟩, false), (⟨(some 70), (.arith .sub (.tmp 69) (.const (.int .i64 5))), none⟩, false), (⟨(some 71), (.mov (.tmp 0)), none⟩, false), (⟨(some 72), (.mov (.tmp 4)), none⟩, false), (⟨(some 73), (.arith .sub (.tmp 72) (.const (.int .i64 6))), none⟩, false), (⟨(some 74), (.mov (.tmp 11)), none⟩, false), (⟨(some 75), (.arith .add (.tmp 74) (.const (.int .u32 1))), none⟩, false), (⟨(some 76), (.idxS (.const (.string ⟨#[48, 48, 48, 49, 48, 50, 48, 51, 48, 52, 48, 53, 48, 54, 48, 55, 48, 56, 48, 57, 49, 48, 49, 49, 49, 50, 49, 51, 49, 52, 49, 53, 49, 54, 49, 55, 49, 56, 49, 57, 50, 48, 50, 49, 50, 50, 50, 51, 50, 52, 50, 53, 50, 54, 50, 55, 50, 56, 50, 57, 51, 48, 51, 49, 51, 50, 51, 51, 51, 52, 51, 53, 51, 54, 51, 55, 51, 56, 51, 57, 52, 48, 52, 49, 52, 50, 52, 51, 52, 52, 52, 53, 52, 54, 52, 55, 52, 56, 52, 57, 53, 48, 53, 49, 53, 50, 53, 51, 53, 52, 53, 53, 53, 54, 53, 55, 53, 56, 53, 57, 54, 48, 54, 49, 54, 50, 54, 51, 54, 52, 54, 53, 54, 54, 54, 55, 54, 56, 54, 57, 55, 48, 55, 49, 55, 50, 55, 51, 55, 52, 55, 53, 55, 54, 55, 55, 55, 56, 55, 57, 56, 48, 56, 49, 56, 50, 56, 51, 56, 52, 56, 53, 56, 54, 56, 55, 56, 56, 56, 57, 57, 48, 57, 49, 57, 50, 57, 51, 57, 52, 57, 53, 57, 54, 57, 55, 57, 56, 57, 57]⟩)) (.tmp 75)), none⟩, false), (⟨(some 77), (.mov (.tmp 11)), none⟩, false), (⟨(some 78), (.idxS (.const (.string ⟨#[48, 48, 48, 49, 48, 50, 48, 51, 48, 52, 48, 53, 48, 54, 48, 55, 48, 56, 48, 57, 49, 48, 49, 49, 49, 50, 49, 51, 49, 52, 49, 53, 49, 54, 49, 55, 49, 56, 49, 57, 50, 48, 50, 49, 50, 50, 50, 51, 50, 52, 50, 53, 50, 54, 50, 55, 50, 56, 50, 57, 51, 48, 51, 49, 51, 50, 51, 51, 51, 52, 51, 53, 51, 54, 51, 55, 51, 56, 51, 57, 52, 48, 52, 49, 52, 50, 52, 51, 52, 52, 52, 53, 52, 54, 52, 55, 52, 56, 52, 57, 53, 48, 53, 49, 53, 50, 53, 51, 53, 52, 53, 53, 53, 54, 53, 55, 53, 56, 53, 57, 54, 48, 54, 49, 54, 50, 54, 51, 54, 52, 54, 53, 54, 54, 54, 55, 54, 56, 54, 57, 55, 48, 55, 49, 55, 50, 55, 51, 55, 52, 55, 53, 55, 54, 55, 55, 55, 56, 55, 57, 56, 48, 56, 49, 56, 50, 56, 51, 56, 52, 56, 53, 56, 54, 56, 55, 56, 56, 56, 57, 57, 48, 57, 49, 57, 50, 57, 51, 57, 52, 57, 53, 57, 54, 57, 55, 57, 56, 57, 57]⟩)) (.tmp 77)), none⟩, false), (⟨(some 79), (.idxAddr 1 (.tmp 68) (.tmp 70)), none⟩, false), (⟨none, (.store 1 (.tmp 79) (.tmp 76)), none⟩, false), (⟨(some 80), (.idxAddr 1 (.tmp 71) (.tmp 73)), none⟩, false), (⟨none, (.store 1 (.tmp 80) (.tmp 78)), none⟩, false)]) (.seq (.draw [(⟨(some 81), (.mov (.tmp 0)), none⟩, false), (⟨(some 82), (.mov (.tmp 4)), none⟩, false), (⟨(some 83), (.arith .sub (.tmp 82) (.const (.int .i64 7))), none⟩, false), (⟨(some 84), (.mov (.tmp 0)), none⟩, false), (⟨(some 85), (.mov (.tmp 4)), none⟩, false), (⟨(some 86), (.arith .sub (.tmp 85) (.const (.int .i64 8))), none⟩, false), (⟨(some 87), (.mov (.tmp 10)), none⟩, false), (⟨(some 88), (.arith .add (.tmp 87) (.const (.int .u32 1))), none⟩, false), (⟨(some 89), (.idxS (.const (.string ⟨#[48, 48, 48, 49, 48, 50, 48, 51, 48, 52, 48, 53, 48, 54, 48, 55, 48, 56, 48, 57, 49, 48, 49, 49, 49, 50, 49, 51, 49, 52, 49, 53, 49, 54, 49, 55, 49, 56, 49, 57, 50, 48, 50, 49, 50, 50, 50, 51, 50, 52, 50, 53, 50, 54, 50, 55, 50, 56, 50, 57, 51, 48, 51, 49, 51, 50, 51, 51, 51, 52, 51, 53, 51, 54, 51, 55, 51, 56, 51, 57, 52, 48, 52, 49, 52, 50, 52, 51, 52, 52, 52, 53, 52, 54, 52, 55, 52, 56, 52, 57, 53, 48, 53, 49, 53, 50, 53, 51, 53, 52, 53, 53, 53, 54, 53, 55, 53, 56, 53, 57, 54, 48, 54, 49, 54, 50, 54, 51, 54, 52, 54, 53, 54, 54, 54, 55, 54, 56, 54, 57, 55, 48, 55, 49, 55, 50, 55, 51, 55, 52, 55, 53, 55, 54, 55, 55, 55, 56, 55, 57, 56, 48, 56, 49, 56, 50, 56, 51, 56, 52, 56, 53, 56, 54, 56, 55, 56, 56, 56, 57, 57, 48, 57, 49, 57, 50, 57, 51, 57, 52, 57, 53, 57, 54, 57, 55, 57, 56, 57, 57]⟩)) (.tmp 88)), none⟩, false), (⟨(some 90), (.mov (.tmp 10)), none⟩, false), (⟨(some 91), (.idxS (.const (.string ⟨#[48, 48, 48, 49, 48, 50, 48, 51, 48, 52, 48, 53, 48, 54, 48, 55, 48, 56, 48, 57, 49, 48, 49, 49, 49, 50, 49, 51, 49, 52, 49, 53, 49, 54, 49, 55, 49, 56, 49, 57, 50, 48, 50, 49, 50, 50, 50, 51, 50, 52, 50, 53, 50, 54, 50, 55, 50, 56, 50, 57, 51, 48, 51, 49, 51, 50, 51, 51, 51, 52, 51, 53, 51, 54, 51, 55, 51, 56, 51, 57, 52, 48, 52, 49, 52, 50, 52, 51, 52, 52, 52, 53, 52, 54, 52, 55, 52, 56, 52, 57, 53, 48, 53, 49, 53, 50, 53, 51, 53, 52, 53, 53, 53, 54, 53, 55, 53, 56, 53, 57, 54, 48, 54, 49, 54, 50, 54, 51, 54, 52, 54, 53, 54, 54, 54, 55, 54, 56, 54, 57, 55, 48, 55, 49, 55, 50, 55, 51, 55, 52, 55, 53, 55, 54, 55, 55, 55, 56, 55, 57, 56, 48, 56, 49, 56, 50, 56, 51, 56, 52, 56, 53, 56, 54, 56, 55, 56, 56, 56, 57, 57, 48, 57, 49, 57, 50, 57, 51, 57, 52, 57, 53, 57, 54, 57, 55, 57, 56, 57, 57]⟩)) (.tmp 90)), none⟩, false), (⟨(some 92), (.idxAddr 1 (.tmp 81) (.tmp 83)), none⟩, false), (⟨none, (.store 1 (.tmp 92) (.tmp 89)), none⟩, false), (⟨(some 93), (.idxAddr 1 (.tmp 84) (.tmp 86)), none⟩, false), (⟨none, (.store 1 (.tmp 93) (.tmp 91)), none⟩, false)]) (.ops [⟨(some 94), (.mov (.tmp 4)), none⟩, ⟨(some 95), (.arith .sub (.tmp 94) (.const (.int .i64 8))), none⟩, ⟨(some 4), (.mov (.tmp 95)), none⟩])))))))))))))) (.seq (.ops [⟨(some 96), (.mov (.tmp 1)), none⟩, ⟨(some 97), (.conv .u32 (.tmp 96)), none⟩, ⟨(some 12), (.mov (.tmp 97)), none⟩]) (.seq (.seq (.ops [⟨(some 98), (.mov (.tmp 4)), none⟩, ⟨(some 99), (.cmp .geq (.tmp 98) (.const (.int .i64 4))), none⟩]) (.cond (.tmp 99) (.seq (.ops [⟨(some 100), (.mov (.tmp 12)), none⟩, ⟨(some 101), (.arith .rem (.tmp 100) (.const (.int .u32 10000))), none⟩, ⟨(some 13), (.mov (.tmp 101)), none⟩]) (.seq (.ops [⟨(some 102), (.mov (.tmp 12)), none⟩, ⟨(some 103), (.arith .quo (.tmp 102) (.const (.int .u32 10000))), none⟩, ⟨(some 12), (.mov (.tmp 103)), none⟩]) (.seq (.ops [⟨(some 104), (.mov (.tmp 13)), none⟩, ⟨(some 105), (.arith .quo (.tmp 104) (.const (.int .u32 100))), none⟩, ⟨(some 106), (.arith .mul (.tmp 105) (.const (.int .u32 2))), none⟩, ⟨(some 107), (.mov (.tmp 13)), none⟩, ⟨(some 108), (.arith .rem (.tmp 107) (.const (.int .u32 100))), none⟩, ⟨(some 109), (.arith .mul (.tmp 108) (.const (.int .u32 2))), none⟩, ⟨(some 14), (.mov (.tmp 106)), none⟩, ⟨(some 15), (.mov (.tmp 109)), none⟩]) (.seq (.draw [(⟨(some 110), (.mov (.tmp 0)), none⟩, false), (⟨(some 111), (.mov (.tmp 4)), none⟩, false), (⟨(some 112), (.arith .sub (.tmp 111) (.const (.int .i64 1))), none⟩, false), (⟨(some 113), (.mov (.tmp 0)), none⟩, false), (⟨(some 114), (.mov (.tmp 4)), none⟩, false), (⟨(some 115), (.arith .sub (.tmp 114) (.const (.int .i64 2))), none⟩, false), (⟨(some 116), (.mov (.tmp 15)), none⟩, false), (⟨(some 117), (.arith .add (.tmp 116) (.const (.int .u32 1))), none⟩, false), (⟨(some 118), (.idxS (.const (.string ⟨#[48, 48, 48, 49, 48, 50, 48, 51, 48, 52, 48, 53, 48, 54, 48, 55, 48, 56, 48, 57, 49, 48, 49, 49, 49, 50, 49, 51, 49, 52, 49, 53, 49, 54, 49, 55, 49, 56, 49, 57, 50, 48, 50, 49, 50, 50, 50, 51, 50, 52, 50, 53, 50, 54, 50, 55, 50, 56, 50, 57, 51, 48, 51, 49, 51, 50, 51, 51, 51, 52, 51, 53, 51, 54, 51, 55, 51, 56, 51, 57, 52, 48, 52, 49, 52, 50, 52, 51, 52, 52, 52, 53, 52, 54, 52, 55, 52, 56, 52, 57, 53, 48, 53, 49, 53, 50, 53, 51, 53, 52, 53, 53, 53, 54, 53, 55, 53, 56, 53, 57, 54, 48, 54, 49, 54, 50, 54, 51, 54, 52, 54, 53, 54, 54, 54, 55, 54, 56, 54, 57, 55, 48, 55, 49, 55, 50, 55, 51, 55, 52, 55, 53, 55, 54, 55, 55, 55, 56, 55, 57, 56, 48, 56, 49, 56, 50, 56, 51, 56, 52, 56, 53, 56, 54, 56, 55, 56, 56, 56, 57, 57, 48, 57, 49, 57, 50, 57, 51, 57, 52, 57, 53, 57, 54, 57, 55, 57, 56, 57, 57]⟩)) (.tmp 117)), none⟩, false), (⟨(some 119), (.mov (.tmp 15)), none⟩, false), (⟨(some 120), (.idxS (.const (.string ⟨#[48, 48, 48, 49, 48, 50, 48, 51, 48, 52, 48, 53, 48, 54, 48, 55, 48, 56, 48, 57, 49, 48, 49, 49, 49, 50, 49, 51, 49, 52, 49, 53, 49, 54, 49, 55, 49, 56, 49, 57, 50, 48, 50, 49, 50, 50, 50, 51, 50, 52, 50, 53, 50, 54, 50, 55, 50, 56, 50, 57, 51, 48, 51, 49, 51, 50, 51, 51, 51, 52, 51, 53, 51, 54, 51, 55, 51, 56, 51, 57, 52, 48, 52, 49, 52, 50, 52, 51, 52, 52, 52, 53, 52, 54, 52, 55, 52, 56, 52, 57, 53, 48, 53, 49, 53, 50, 53, 51, 53, 52, 53, 53, 53, 54, 53, 55, 53, 56, 53, 57, 54, 48, 54, 49, 54, 50, 54, 51, 54, 52, 54, 53, 54, 54, 54, 55, 54, 56, 54, 57, 55, 48, 55, 49, 55, 50, 55, 51, 55, 52, 55, 53, 55, 54, 55, 55, 55, 56, 55, 57, 56, 48, 56, 49, 56, 50, 56, 51, 56, 52, 56, 53, 56, 54, 56, 55, 56, 56, 56, 57, 57, 48, 57, 49, 57, 50, 57, 51, 57, 52, 57, 53, 57, 54, 57, 55, 57, 56, 57, 57]⟩)) (.tmp 119)), none⟩, false), (⟨(some 121), (.idxAddr 1 (.tmp 110) (.tmp 112)), none⟩, false), (⟨none, (.store 1 (.tmp 121) (.tmp 118)), none⟩, false), (⟨(some 122), (.idxAddr 1 (.tmp 113) (.tmp 115)), none⟩, false), (⟨none, (.store 1 (.tmp 122) (.tmp 120)), none⟩, false)]) (.seq (.draw [(⟨(some 123), (.mov (.tmp 0)), none⟩, false), (⟨(some 124), (.mov (.tmp 4)), none⟩, false), (⟨(some 125), (.arith .sub (.tmp 124) (.const (.int .i64 3))), none⟩, false), (⟨(some 126), (.mov (.tmp 0)), none⟩, false), (⟨(some 127), (.mov (.tmp 4)), none⟩, false), (⟨(some 128), (.arith .sub (.tmp 127) (.const (.int .i64 4))), none⟩, false), (⟨(some 129), (.mov (.tmp 14)), none⟩, false), (⟨(some 130), (.arith .add (.tmp 129) (.const (.int .u32 1))), none⟩, false), (⟨(some 131), (.idxS (.const (.string ⟨#[48, 48, 48, 49, 48, 50, 48, 51, 48, 52, 48, 53, 48, 54, 48, 55, 48, 56, 48, 57, 49, 48, 49, 49, 49, 50, 49, 51, 49, 52, 49, 53, 49, 54, 49, 55, 49, 56, 49, 57, 50, 48, 50, 49, 50, 50, 50, 51, 50, 52, 50, 53, 50, 54, 50, 55, 50, 56, 50, 57, 51, 48, 51, 49, 51, 50, 51, 51, 51, 52, 51, 53, 51, 54, 51, 55, 51, 56, 51, 57, 52, 48, 52, 49, 52, 50, 52, 51, 52, 52, 52, 53, 52, 54, 52, 55, 52, 56, 52, 57, 53, 48, 53, 49, 53, 50, 53, 51, 53, 52, 53, 53, 53, 54, 53, 55, 53, 56, 53, 57, 54, 48, 54, 49, 54, 50, 54, 51, 54, 52, 54, 53, 54, 54, 54, 55, 54, 56, 54, 57, 55, 48, 55, 49, 55, 50, 55, 51, 55, 52, 55, 53, 55, 54, 55, 55, 55, 56, 55, 57, 56, 48, 56, 49, 56, 50, 56, 51, 56, 52, 56, 53, 56, 54, 56, 55, 56, 56, 56, 57, 57, 48, 57, 49, 57, 50, 57, 51, 57, 52, 57, 53, 57, 54, 57, 55, 57, 56, 57, 57]⟩)) (.tmp 130)), none⟩, false), (⟨(some 132), (.mov (.tmp 14)), none⟩, false), (⟨(some 133), (.idxS (.const (.string ⟨#[48, 48, 48, 49, 48, 50, 48, 51, 48, 52, 48, 53, 48, 54, 48, 55, 48, 56, 48, 57, 49, 48, 49, 49, 49, 50, 49, 51, 49, 52, 49, 53, 49, 54, 49, 55, 49, 56, 49, 57, 50, 48, 50, 49, 50, 50, 50, 51, 50, 52, 50, 53, 50, 54, 50, 55, 50, 56, 50, 57, 51, 48, 51, 49, 51, 50, 51, 51, 51, 52, 51, 53, 51, 54, 51, 55, 51, 56, 51, 57, 52, 48, 52, 49, 52, 50, 52, 51, 52, 52, 52, 53, 52, 54, 52, 55, 52, 56, 52, 57, 53, 48, 53, 49, 53, 50, 53, 51, 53, 52, 53, 53, 53, 54, 53, 55, 53, 56, 53, 57, 54, 48, 54, 49, 54, 50, 54, 51, 54, 52, 54, 53, 54, 54, 54, 55, 54, 56, 54, 57, 55, 48, 55, 49, 55, 50, 55, 51, 55, 52, 55, 53, 55, 54, 55, 55, 55, 56, 55, 57, 56, 48, 56, 49, 56, 50, 56, 51, 56, 52, 56, 53, 56, 54, 56, 55, 56, 56, 56, 57, 57, 48, 57, 49, 57, 50, 57, 51, 57, 52, 57, 53, 57, 54, 57, 55, 57, 56, 57, 57]⟩)) (.tmp 132)), none⟩, false), (⟨(some 134), (.idxAddr 1 (.tmp 123) (.tmp 125)), none⟩, false), (⟨none, (.store 1 (.tmp 134) (.tmp 131)), none⟩, false), (⟨(some 135), (.idxAddr 1 (.tmp 126) (.tmp 128)), none⟩, false), (⟨none, (.store 1 (.tmp 135) (.tmp 133)), none⟩, false)]) (.ops [⟨(some 136), (.mov (.tmp 4)), none⟩, ⟨(some 137), (.arith .sub (.tmp 136) (.const (.int .i64 4))), none⟩, ⟨(some 4), (.mov (.tmp 137)), none⟩])))))) .skip)) (.seq (.seq (.ops [⟨(some 138), (.mov (.tmp 4)), none⟩, ⟨(some 139), (.cmp .geq (.tmp 138) (.const (.int .i64 2))), none⟩]) (.cond (.tmp 139) (.seq (.ops [⟨(some 140), (.mov (.tmp 12)), none⟩, ⟨(some 141), (.arith .rem (.tmp 140) (.const (.int .u32 100))), none⟩, ⟨(some 142), (.arith .mul (.tmp 141) (.const (.int .u32 2))), none⟩, ⟨(some 16), (.mov (.tmp 142)), none⟩]) (.seq (.ops [⟨(some 143), (.mov (.tmp 12)), none⟩, ⟨(some 144), (.arith .quo (.tmp 143) (.const (.int .u32 100))), none⟩, ⟨(some 12), (.mov (.tmp 144)), none⟩]) (.seq (.draw [(⟨(some 145), (.mov (.tmp 0)), none⟩, false), (⟨(some 146), (.mov (.tmp 4)), none⟩, false), (⟨(some 147), (.arith .sub (.tmp 146) (.const (.int .i64 1))), none⟩, false), (⟨(some 148), (.mov (.tmp 0)), none⟩, false), (⟨(some 149), (.mov (.tmp 4)), none⟩, false), (⟨(some 150), (.arith .sub (.tmp 149) (.const (.int .i64 2))), none⟩, false), (⟨(some 151), (.mov (.tmp 16)), none⟩, false), (⟨(some 152), (.arith .add (.tmp 151) (.const (.int .u32 1))), none⟩, false), (⟨(some 153), (.idxS (.const (.string ⟨#[48, 48, 48, 49, 48, 50, 48, 51, 48, 52, 48, 53, 48, 54, 48, 55, 48, 56, 48, 57, 49, 48, 49, 49, 49, 50, 49, 51, 49, 52, 49, 53, 49, 54, 49, 55, 49, 56, 49, 57, 50, 48, 50, 49, 50, 50, 50, 51, 50, 52, 50, 53, 50, 54, 50, 55, 50, 56, 50, 57, 51, 48, 51, 49, 51, 50, 51, 51, 51, 52, 51, 53, 51, 54, 51, 55, 51, 56, 51, 57, 52, 48, 52, 49, 52, 50, 52, 51, 52, 52, 52, 53, 52, 54, 52, 55, 52, 56, 52, 57, 53, 48, 53, 49, 53, 50, 53, 51, 53, 52, 53, 53, 53, 54, 53, 55, 53, 56, 53, 57, 54, 48, 54, 49, 54, 50, 54, 51, 54, 52, 54, 53, 54, 54, 54, 55, 54, 56, 54, 57, 55, 48, 55, 49, 55, 50, 55, 51, 55, 52, 55, 53, 55, 54, 55, 55, 55, 56, 55, 57, 56, 48, 56, 49, 56, 50, 56, 51, 56, 52, 56, 53, 56, 54, 56, 55, 56, 56, 56, 57, 57, 48, 57, 49, 57, 50, 57, 51, 57, 52, 57, 53, 57, 54, 57, 55, 57, 56, 57, 57]⟩)) (.tmp 152)), none⟩, false), (⟨(some 154), (.mov (.tmp 16)), none⟩, false), (⟨(some 155), (.idxS (.const (.string ⟨#[48, 48, 48, 49, 48, 50, 48, 51, 48, 52, 48, 53, 48, 54, 48, 55, 48, 56, 48, 57, 49, 48, 49, 49, 49, 50, 49, 51, 49, 52, 49, 53, 49, 54, 49, 55, 49, 56, 49, 57, 50, 48, 50, 49, 50, 50, 50, 51, 50, 52, 50, 53, 50, 54, 50, 55, 50, 56, 50, 57, 51, 48, 51, 49, 51, 50, 51, 51, 51, 52, 51, 53, 51, 54, 51, 55, 51, 56, 51, 57, 52, 48, 52, 49, 52, 50, 52, 51, 52, 52, 52, 53, 52, 54, 52, 55, 52, 56, 52, 57, 53, 48, 53, 49, 53, 50, 53, 51, 53, 52, 53, 53, 53, 54, 53, 55, 53, 56, 53, 57, 54, 48, 54, 49, 54, 50, 54, 51, 54, 52, 54, 53, 54, 54, 54, 55, 54, 56, 54, 57, 55, 48, 55, 49, 55, 50, 55, 51, 55, 52, 55, 53, 55, 54, 55, 55, 55, 56, 55, 57, 56, 48, 56, 49, 56, 50, 56, 51, 56, 52, 56, 53, 56, 54, 56, 55, 56, 56, 56, 57, 57, 48, 57, 49, 57, 50, 57, 51, 57, 52, 57, 53, 57, 54, 57, 55, 57, 56, 57, 57]⟩)) (.tmp 154)), none⟩, false), (⟨(some 156), (.idxAddr 1 (.tmp 145) (.tmp 147)), none⟩, false), (⟨none, (.store 1 (.tmp 156) (.tmp 153)), none⟩, false), (⟨(some 157), (.idxAddr 1 (.tmp 148) (.tmp 150)), none⟩, false), (⟨none, (.store 1 (.tmp 157) (.tmp 155)), none⟩, false)]) (.ops [⟨(some 158), (.mov (.tmp 4)), none⟩, ⟨(some 159), (.arith .sub (.tmp 158) (.const (.int .i64 2))), none⟩, ⟨(some 4), (.mov (.tmp 159)), none⟩])))) .skip)) (.seq (.ops [⟨(some 160), (.mov (.tmp 4)), none⟩, ⟨(some 161), (.cmp .gtr (.tmp 160) (.const (.int .i64 0))), none⟩]) (.cond (.tmp 161) (.ops [⟨(some 162), (.mov (.tmp 0)), none⟩, ⟨(some 163), (.mov (.tmp 12)), none⟩, ⟨(some 164), (.arith .add (.const (.int .u32 48)) (.tmp 163)), none⟩, ⟨(some 165), (.conv .u8 (.tmp 164)), none⟩, ⟨(some 166), (.idxAddr 1 (.tmp 162) (.const (.int .i64 0))), none⟩, ⟨none, (.store 1 (.tmp 166) (.tmp 165)), none⟩]) .skip))))))), 167, []⟩
theorem c172 : compileFn Go.Proofs.Tryz.prog Go.Proofs.Tryz.f172 = some R172 := by kernel_rfl
theorem n172 : R172.ntmps = 167 := rfl
theorem a172 {args : List Value} {H : AHeap} {Q : Value → AHeap → Prop} (h : AWP Go.Proofs.Tryz.prog none R172.code (Fin R172 Q) (args ++ List.replicate (R172.ntmps - args.length) undef) H) : ACall Go.Proofs.Tryz.prog 172 args H Q := acall_intro mo Go.Proofs.Tryz.func172 c172 h

def R173 : RFunc :=
  ⟨(.seq (.ops [⟨(some 10), (.mov (.const (.slice none 0 0))), none⟩, ⟨(some 11), (.mov (.const (.string ⟨#[]⟩))), none⟩]) (.seq (.seq (.ops [⟨(some 19), (.mov (.tmp 2)), none⟩, ⟨(some 20), (.cmp .lss (.tmp 19) (.const (.int .i64 2))), none⟩, ⟨(some 21), (.mov (.tmp 20)), none⟩, ⟨(some 22), (.mov (.tmp 2)), (some (21, false))⟩, ⟨(some 23), (.cmp .eql (.tmp 22) (.const (.int .i64 10))), (some (21, false))⟩, ⟨(some 24), (.pick (.tmp 21) (.const (.bool true)) (.tmp 23)), none⟩, ⟨(some 25), (.mov (.tmp 24)), none⟩, ⟨(some 26), (.mov (.tmp 2)), (some (25, false))⟩, ⟨(some 27), (.cmp .gtr (.tmp 26) (.const (.int .i64 36))), (some (25, false))⟩, ⟨(some 28), (.pick (.tmp 25) (.const (.bool true)) (.tmp 27)), none⟩]) (.cond (.tmp 28) (.ops [⟨(some 29), (.iface 9 (.const (.string ⟨#[115, 116, 114, 99, 111, 110, 118, 58, 32, 105, 108, 108, 101, 103, 97, 108, 32, 65, 112, 112, 101, 110, 100, 73, 110, 116, 47, 70, 111, 114, 109, 97, 116, 73, 110, 116, 32, 98, 97, 115, 101]⟩))), none⟩, ⟨none, (.extract (.const (.chan none)) 0), none⟩]) .skip)) (.seq (.ops [⟨(some 12), (.new [(.int .u8 0), (.int .u8 0), (.int .u8 0), (.int .u8 0), (.int .u8 0), (.int .u8 0), (.int .u8 0), (.int .u8 0), (.int .u8 0), (.int .u8 0), (.int .u8 0), (.int .u8 0), (.int .u8 0), (.int .u8 0), (.int .u8 0), (.int .u8 0), (.int .u8 0), (.int .u8 0), (.int .u8 0), (.int .u8 0), (.int .u8 0), (.int .u8 0), (.int .u8 0), (.int .u8 0), (.int .u8 0), (.int .u8 0), (.int .u8 0), (.int .u8 0), (.int .u8 0), (.int .u8 0), (.int .u8 0), (.int .u8 0), (.int .u8 0), (.int .u8 0), (.int .u8 0), (.int .u8 0), (.int .u8 0), (.int .u8 0), (.int .u8 0), (.int .u8 0), (.int .u8 0), (.int .u8 0), (.int .u8 0), (.int .u8 0), (.int .u8 0), (.int .u8 0), (.int .u8 0), (.int .u8 0), (.int .u8 0), (.int .u8 0), (.int .u8 0), (.int .u8 0), (.int .u8 0), (.int .u8 0), (.int .u8 0), (.int .u8 0), (.int .u8 0), (.int .u8 0), (.int .u8 0), (.int .u8 0), (.int .u8 0), (.int .u8 0), (.int .u8 0), (.int .u8 0), (.int .u8 0)]), none⟩]) (.seq (.ops [⟨(some 13), (.mov (.const (.int .i64 65))), none⟩]) (.seq (.seq (.ops [⟨(some 30), (.mov (.tmp 3)), none⟩]) (.cond (.tmp 30) (.ops [⟨(some 31), (.mov (.tmp 1)), none⟩, ⟨(some 32), (.neg (.tmp 31)), none⟩, ⟨(some 1), (.mov (.tmp 32)), none⟩]) .skip)) (.seq (.seq (.ops [⟨(some 33), (.mov (.tmp 2)), none⟩, ⟨(some 34), (.call (.func 196) [(.tmp 33)]), none⟩]) (.cond (.tmp 34) (.seq (.ops [⟨(some 35), (.mov (.tmp 2)), none⟩, ⟨(some 36), (.conv .u64 (.tmp 35)), none⟩, ⟨(some 37), (.call (.func 197) [(.tmp 36)]), none⟩, ⟨(some 38), (.conv .u64 (.tmp 37)), none⟩, ⟨(some 14), (.mov (.tmp 38)), none⟩]) (.seq (.ops [⟨(some 39), (.mov (.tmp 2)), none⟩, ⟨(some 40), (.conv .u64 (.tmp 39)), none⟩, ⟨(some 15), (.mov (.tmp 40)), none⟩]) (.seq (.ops [⟨(some 41), (.mov (.tmp 2)), none⟩, ⟨(some 42), (.conv .u64 (.tmp 41)), none⟩, ⟨(some 43), (.arith .sub (.tmp 42) (.const (.int .u64 1))), none⟩, ⟨(some 16), (.mov (.tmp 43)), none⟩]) (.seq (.block 0 (.loop (.seq (.seq (.ops [⟨(some 44), (.mov (.tmp 1)), none⟩, ⟨(some 45), (.mov (.tmp 15)), none⟩, ⟨(some 46), (.cmp .geq (.tmp 44) (.tmp 45)), none⟩]) (.cond (.tmp 46) .skip (.exit 0))) (.block 1 (.seq (.ops [⟨(some 47), (.mov (.tmp 13)), none⟩, ⟨(some 48), (.arith .sub (.tmp 47) (.const (.int .i64 1))), none⟩, ⟨(some 13), (.mov (.tmp 48)), none⟩]) (.seq (.ops [⟨(some 49), (.mov (.tmp 13)), none⟩, ⟨(some 50), (.mov (.tmp 1)), none⟩, ⟨(some 51), (.mov (.tmp 16)), none⟩, ⟨(some 52), (.band (.tmp 50) (.tmp 51)), none⟩, ⟨(some 53), (.idxS (.const (.string ⟨#[48, 49, 50, 51, 52, 53, 54, 55, 56, 57, 97, 98, 99, 100, 101, 102, 103, 104, 105, 106, 107, 108, 109, 110, 111, 112, 113, 114, 115, 116, 117, 118, 119, 120, 121, 122]⟩)) (.tmp 52)), none⟩, ⟨(some 54), (.idxAddrA 65 1 (.tmp 12) (.tmp 49)), none⟩, ⟨none, (.store 1 (.tmp 54) (.tmp 53)), none⟩]) (.ops [⟨(some 55), (.mov (.tmp 1)), none⟩, ⟨(some 56), (.mov (.tmp 14)), none⟩, ⟨(some 57), (.shr (.tmp 55) (.tmp 56)), none⟩, ⟨(some 1), (.mov (.tmp 57)), none⟩]))))))) (.seq (.ops [⟨(some 58), (.mov (.tmp 13)), none⟩, ⟨(some 59), (.arith .sub (.tmp 58) (.const (.int .i64 1))), none⟩, ⟨(some 13), (.mov (.tmp 59)), none⟩]) (.ops [⟨(some 60), (.mov (.tmp 13)), none⟩, ⟨(some 61), (.mov (.tmp 1)), none⟩, ⟨(some 62), (.idxS (.const (.string ⟨#[48, 49, 50, 51, 52, 53, 54, 55, 56, 57, 97, 98, 99, 100, 101, 102, 103, 104, 105, 106, 107, 108, 109, 110, 111, 112, 113, 114, 115, 116, 117, 118, 119, 120, 121, 122]⟩)) (.tmp 61)), none⟩, ⟨(some 63), (.idxAddrA 65 1 (.tmp 12) (.tmp 60)), none⟩, ⟨none, (.store 1 (.tmp 63) (.tmp 62)), none⟩])))))) (.seq (.ops [⟨(some 64), (.mov (.tmp 2)), none⟩, ⟨(some 65), (.conv .u64 (.tmp 64)), none⟩, ⟨(some 17), (.mov (.tmp 65)), none⟩]) (.seq (.block 2 (.loop (.seq (.seq (.ops [⟨(some 66), (.mov (.tmp 1)), none⟩, ⟨(some 67), (.mov (.tmp 17)), none⟩, ⟨(some 68), (.cmp .geq (.tmp 66) (.tmp 67)), none⟩]) (.cond (.tmp 68) .skip (.exit 2))) (.block 3 (.seq (.ops [⟨(some 69), (.mov (.tmp 13)), none⟩, ⟨(some 70), (.arith .sub (.tmp 69) (.const (.int .i64 1))), none⟩, ⟨(some 13), (.mov (.tmp 70)), none⟩]) (.seq (.ops [⟨(some 71), (.mov (.tmp 1)), none⟩, ⟨(some 72), (.mov (.tmp 17)), none⟩, ⟨(some 73), (.arith .quo (.tmp 71) (.tmp 72)), none⟩, ⟨(some 18), (.mov (.tmp 73)), none⟩]) (.seq (.ops [⟨(some 74), (.mov (.tmp 13)), none⟩, ⟨(some 75), (.mov (.tmp 1)), none⟩, ⟨(some 76), (.mov (.tmp 18)), none⟩, ⟨(some 77), (.mov (.tmp 17)), none⟩, ⟨(some 78), (.arith .mul (.tmp 76) (.tmp 77)), none⟩, ⟨(some 79), (.arith .sub (.tmp 75) (.tmp 78)), none⟩, ⟨(some 80), (.idxS (.const (.string ⟨#[48, 49, 50, 51, 52, 53, 54, 55, 56, 57, 97, 98, 99, 100, 101, 102, 103, 104, 105, 106, 107, 108, 109, 110, 111, 112, 113, 114, 115, 116, 117, 118, 119, 120, 121, 122]⟩)) (.tmp 79)), none⟩, ⟨(some 81), (.idxAddrA 65 1 (.tmp 12) (.tmp 74)), none⟩, ⟨none, (.store 1 (.tmp 81) (.tmp 80)), none⟩]) (.ops [⟨(some 82), (.mov (.tmp 18)), none⟩, ⟨(some 1), (.mov (.tmp 82)), none⟩])))))))) (.seq (.ops [⟨(some 83), (.mov (.tmp 13)), none⟩, ⟨(some 84), (.arith .sub (.tmp 83) (.const (.int .i64 1))), none⟩, ⟨(some 13), (.mov (.tmp 84)), none⟩]) (.ops [⟨(some 85), (.mov (.tmp 13)), none⟩, ⟨(some 86), (.mov (.tmp 1)), none⟩, ⟨(some 87), (.idxS (.const (.string ⟨#[48, 49, 50, 51, 52, 53, 54, 55, 56, 57, 97, 98, 99, 100, 101, 102, 103, 104, 105, 106, 107, 108, 109, 110, 111, 112, 113, 114, 115, 116, 117, 118, 119, 120, 121, 122]⟩)) (.tmp 86)), none⟩, ⟨(some 88), (.idxAddrA 65 1 (.tmp 12) (.tmp 85)), none⟩, ⟨none, (.store 1 (.tmp 88) (.tmp 87)), none⟩])))))) (.seq (.seq (.ops [⟨(some 89), (.mov (.tmp 3)), none⟩]) (.cond (.tmp 89) (.seq (.ops [⟨(some 90), (.mov (.tmp 13)), none⟩, ⟨(some 91), (.arith .sub (.tmp 90) (.const (.int .i64 1))), none⟩, ⟨(some 13), (.mov (.tmp 91)), none⟩]) (.ops [⟨(some 92), (.mov (.tmp 13)), none⟩, ⟨(some 93), (.idxAddrA 65 1 (.tmp 12) (.tmp 92)), none⟩, ⟨none, (.store 1 (.tmp 93) (.const (.int .u8 45))), none⟩])) .skip)) (.seq (.seq (.ops [⟨(some 94), (.mov (.tmp 4)), none⟩]) (.cond (.tmp 94) (.seq (.ops [⟨(some 95), (.mov (.tmp 0)), none⟩, ⟨(some 96), (.mov (.tmp 13)), none⟩, ⟨(some 97), (.extract (.const (.chan none)) 0), none⟩, ⟨(some 98), (.append 1 1 (.tmp 95) (.tmp 97)), none⟩, ⟨(some 10), (.mov (.tmp 98)), none⟩]) .ret) .skip)) (.seq (.ops [⟨(some 99), (.mov (.tmp 13)), none⟩, ⟨(some 100), (.extract (.const (.chan none)) 0), none⟩, ⟨(some 101), (.byteS (.tmp 100)), none⟩, ⟨(some 11), (.mov (.tmp 101)), none⟩]) .ret))))))))), 102, [(.tmp 10), (.tmp 11)]⟩
theorem c173 : compileFn Go.Proofs.Tryz.prog Go.Proofs.Tryz.f173 = some R173 := by kernel_rfl
theorem n173 : R173.ntmps = 102 := rfl
theorem a173 {args : List Value} {H : AHeap} {Q : Value → AHeap → Prop} (h : AWP Go.Proofs.Tryz.prog none R173.code (Fin R173 Q) (args ++ List.replicate (R173.ntmps - args.length) undef) H) : ACall Go.Proofs.Tryz.prog 173 args H Q := acall_intro mo Go.Proofs.Tryz.func173 c173 h

def R176 : RFunc :=
  ⟨(.seq (.ops [⟨(some 2), (.mov (.const (.int .i32 0))), none⟩, ⟨(some 3), (.mov (.const (.int .i64 0))), none⟩]) (.seq (.ops [⟨(some 13), (.mov (.tmp 0)), none⟩, ⟨(some 14), (.lenS (.tmp 13)), none⟩, ⟨(some 4), (.mov (.tmp 14)), none⟩]) (.seq (.seq (.ops [⟨(some 15), (.mov (.tmp 4)), none⟩, ⟨(some 16), (.cmp .lss (.tmp 15) (.const (.int .i64 1))), none⟩]) (.cond (.tmp 16) (.seq (.ops [⟨(some 2), (.mov (.const (.int .i32 65533))), none⟩, ⟨(some 3), (.mov (.const (.int .i64 0))), none⟩]) .ret) .skip)) (.seq (.ops [⟨(some 17), (.mov (.tmp 0)), none⟩, ⟨(some 18), (.idxS (.tmp 17) (.const (.int .i64 0))), none⟩, ⟨(some 5), (.mov (.tmp 18)), none⟩]) (.seq (.ops [⟨(some 19), (.mov (.tmp 5)), none⟩, ⟨(some 20), (.idxAddrA 256 1 (.global 7) (.tmp 19)), none⟩, ⟨(some 21), (.load (.tmp 20)), none⟩, ⟨(some 6), (.mov (.tmp 21)), none⟩]) (.seq (.seq (.ops [⟨(some 22), (.mov (.tmp 6)), none⟩, ⟨(some 23), (.cmp .geq (.tmp 22) (.const (.int .u8 240))), none⟩]) (.cond (.tmp 23) (.seq (.ops [⟨(some 24), (.mov (.tmp 6)), none⟩, ⟨(some 25), (.conv .i32 (.tmp 24)), none⟩, ⟨(some 26), (.shl (.tmp 25) (.const (.int .u64 31))), none⟩, ⟨(some 27), (.shr (.tmp 26) (.const (.int .u64 31))), none⟩, ⟨(some 7), (.mov (.tmp 27)), none⟩]) (.seq (.ops [⟨(some 28), (.mov (.tmp 0)), none⟩, ⟨(some 29), (.idxS (.tmp 28) (.const (.int .i64 0))), none⟩, ⟨(some 30), (.conv .i32 (.tmp 29)), none⟩, ⟨(some 31), (.mov (.tmp 7)), none⟩, ⟨(some 32), (.extract (.const (.chan none)) 0), none⟩, ⟨(some 33), (.mov (.tmp 7)), none⟩, ⟨(some 34), (.band (.const (.int .i32 65533)) (.tmp 33)), none⟩, ⟨(some 35), (.bor (.tmp 32) (.tmp 34)), none⟩, ⟨(some 2), (.mov (.tmp 35)), none⟩, ⟨(some 3), (.mov (.const (.int .i64 1))), none⟩]) .ret)) .skip)) (.seq (.ops [⟨(some 36), (.mov (.tmp 6)), none⟩, ⟨(some 37), (.band (.tmp 36) (.const (.int .u8 7))), none⟩, ⟨(some 38), (.conv .i64 (.tmp 37)), none⟩, ⟨(some 8), (.mov (.tmp 38)), none⟩]) (.seq (.ops [⟨(some 39), (.mov (.tmp 6)), none⟩, ⟨(some 40), (.shr (.tmp 39) (.const (.int .u64 4))), none⟩, ⟨(some 41), (.idxAddrA 16 2 (.global 8) (.tmp 40)), none⟩, ⟨(some 42), (.loadN 2 (.tmp 41)), none⟩, ⟨(some 9), (.new [(.int .u8 0), (.int .u8 0)]), none⟩, ⟨none, (.store 2 (.tmp 9) (.tmp 42)), none⟩]) (.seq (.seq (.ops [⟨(some 43), (.mov (.tmp 4)), none⟩, ⟨(some 44), (.mov (.tmp 8)), none⟩, ⟨(some 45), (.cmp .lss (.tmp 43) (.tmp 44)), none⟩]) (.cond (.tmp 45) (.seq (.ops [⟨(some 2), (.mov (.const (.int .i32 65533))), none⟩, ⟨(some 3), (.mov (.const (.int .i64 1))), none⟩]) .ret) .skip)) (.seq (.ops [⟨(some 46), (.mov (.tmp 0)), none⟩, ⟨(some 47), (.idxS (.tmp 46) (.const (.int .i64 1))), none⟩, ⟨(some 10), (.mov (.tmp 47)), none⟩]) (.seq (.seq (.ops [⟨(some 48), (.mov (.tmp 10)), none⟩, ⟨(some 49), (.fieldAddr 0 (.tmp 9)), none⟩, ⟨(some 50), (.load (.tmp 49)), none⟩, ⟨(some 51), (.cmp .lss (.tmp 48) (.tmp 50)), none⟩, ⟨(some 52), (.mov (.tmp 51)), none⟩, ⟨(some 53), (.fieldAddr 1 (.tmp 9)), (some (52, false))⟩, ⟨(some 54), (.load (.tmp 53)), (some (52, false))⟩, ⟨(some 55), (.mov (.tmp 10)), (some (52, false))⟩, ⟨(some 56), (.cmp .lss (.tmp 54) (.tmp 55)), (some (52, false))⟩, ⟨(some 57), (.pick (.tmp 52) (.const (.bool true)) (.tmp 56)), none⟩]) (.cond (.tmp 57) (.seq (.ops [⟨(some 2), (.mov (.const (.int .i32 65533))), none⟩, ⟨(some 3), (.mov (.const (.int .i64 1))), none⟩]) .ret) .skip)) (.seq (.seq (.ops [⟨(some 58), (.mov (.tmp 8)), none⟩, ⟨(some 59), (.cmp .leq (.tmp 58) (.const (.int .i64 2))), none⟩]) (.cond (.tmp 59) (.seq (.ops [⟨(some 60), (.mov (.tmp 5)), none⟩, ⟨(some 61), (.band (.tmp 60) (.const (.int .u8 31))), none⟩, ⟨(some 62), (.conv .i32 (.tmp 61)), none⟩, ⟨(some 63), (.shl (.tmp 62) (.const (.int .u64 6))), none⟩, ⟨(some 64), (.mov (.tmp 10)), none⟩, ⟨(some 65), (.band (.tmp 64) (.const (.int .u8 63))), none⟩, ⟨(some 66), (.conv .i32 (.tmp 65)), none⟩, ⟨(some 67), (.bor (.tmp 63) (.tmp 66)), none⟩, ⟨(some 2), (.mov (.tmp 67)), none⟩, ⟨(some 3), (.mov (.const (.int .i64 2))), none⟩]) .ret) .skip)) (.seq (.ops [⟨(some 68), (.mov (.tmp 0)), none⟩, ⟨(some 69), (.idxS (.tmp 68) (.const (.int .i64 2))), none⟩, ⟨(some 11), (.mov (.tmp 69)), none⟩]) (.seq (.seq (.ops [⟨(some 70), (.mov (.tmp 11)), none⟩, ⟨(some 71), (.cmp .lss (.tmp 70) (.const (.int .u8 128))), none⟩, ⟨(some 72), (.mov (.tmp 71)), none⟩, ⟨(some 73), (.mov (.tmp 11)), (some (72, false))⟩, ⟨(some 74), (.cmp .lss (.const (.int .u8 191)) (.tmp 73)), (some (72, false))⟩, ⟨(some 75), (.pick (.tmp 72) (.const (.bool true)) (.tmp 74)), none⟩]) (.cond (.tmp 75) (.seq (.ops [⟨(some 2), (.mov (.const (.int .i32 65533))), none⟩, ⟨(some 3), (.mov (.const (.int .i64 1))), none⟩]) .ret) .skip)) (.seq (.seq (.ops [⟨(some 76), (.mov (.tmp 8)), none⟩, ⟨(some 77), (.cmp .leq (.tmp 76) (.const (.int .i64 3))), none⟩]) (.cond (.tmp 77) (.seq (.ops [⟨(some 78), (.mov (.tmp 5)), none⟩, ⟨(some 79), (.band (.tmp 78) (.const (.int .u8 15))), none⟩, ⟨(some 80), (.conv .i32 (.tmp 79)), none⟩, ⟨(some 81), (.shl (.tmp 80) (.const (.int .u64 12))), none⟩, ⟨(some 82), (.mov (.tmp 10)), none⟩, ⟨(some 83), (.band (.tmp 82) (.const (.int .u8 63))), none⟩, ⟨(some 84), (.conv .i32 (.tmp 83)), none⟩, ⟨(some 85), (.shl (.tmp 84) (.const (.int .u64 6))), none⟩, ⟨(some 86), (.bor (.tmp 81) (.tmp 85)), none⟩, ⟨(some 87), (.mov (.tmp 11)), none⟩, ⟨(some 88), (.band (.tmp 87) (.const (.int .u8 63))), none⟩, ⟨(some 89), (.conv .i32 (.tmp 88)), none⟩, ⟨(some 90), (.bor (.tmp 86) (.tmp 89)), none⟩, ⟨(some 2), (.mov (.tmp 90)), none⟩, ⟨(some 3), (.mov (.const (.int .i64 3))), none⟩]) .ret) .skip)) (.seq (.ops [⟨(some 91), (.mov (.tmp 0)), none⟩, ⟨(some 92), (.idxS (.tmp 91) (.const (.int .i64 3))), none⟩, ⟨(some 12), (.mov (.tmp 92)), none⟩]) (.seq (.seq (.ops [⟨(some 93), (.mov (.tmp 12)), none⟩, ⟨(some 94), (.cmp .lss (.tmp 93) (.const (.int .u8 128))), none⟩, ⟨(some 95), (.mov (.tmp 94)), none⟩, ⟨(some 96), (.mov (.tmp 12)), (some (95, false))⟩, ⟨(some 97), (.cmp .lss (.const (.int .u8 191)) (.tmp 96)), (some (95, false))⟩, ⟨(some 98), (.pick (.tmp 95) (.const (.bool true)) (.tmp 97)), none⟩]) (.cond (.tmp 98) (.seq (.ops [⟨(some 2), (.mov (.const (.int .i32 65533))), none⟩, ⟨(some 3), (.mov (.const (.int .i64 1))), none⟩]) .ret) .skip)) (.seq (.ops [⟨(some 99), (.mov (.tmp 5)), none⟩, ⟨(some 100), (.band (.tmp 99) (.const (.int .u8 7))), none⟩, ⟨(some 101), (.conv .i32 (.tmp 100)), none⟩, ⟨(some 102), (.shl (.tmp 101) (.const (.int .u64 18))), none⟩, ⟨(some 103), (.mov (.tmp 10)), none⟩, ⟨(some 104), (.band (.tmp 103) (.const (.int .u8 63))), none⟩, ⟨(some 105), (.conv .i32 (.tmp 104)), none⟩, ⟨(some 106), (.shl (.tmp 105) (.const (.int .u64 12))), none⟩, ⟨(some 107), (.bor (.tmp 102) (.tmp 106)), none⟩, ⟨(some 108), (.mov (.tmp 11)), none⟩, ⟨(some 109), (.band (.tmp 108) (.const (.int .u8 63))), none⟩, ⟨(some 110), (.conv .i32 (.tmp 109)), none⟩, ⟨(some 111), (.shl (.tmp 110) (.const (.int .u64 6))), none⟩, ⟨(some 112), (.bor (.tmp 107) (.tmp 111)), none⟩, ⟨(some 113), (.mov (.tmp 12)), none⟩, ⟨(some 114), (.band (.tmp 113) (.const (.int .u8 63))), none⟩, ⟨(some 115), (.conv .i32 (.tmp 114)), none⟩, ⟨(some 116), (.bor (.tmp 112) (.tmp 115)), none⟩, ⟨(some 2), (.mov (.tmp 116)), none⟩, ⟨(some 3), (.mov (.const (.int .i64 4))), none⟩]) .ret)))))))))))))))))), 117, [(.tmp 2), (.tmp 3)]⟩
theorem c176 : compileFn Go.Proofs.Tryz.prog Go.Proofs.Tryz.f176 = some R176 := by kernel_rfl
theorem n176 : R176.ntmps = 117 := rfl
theorem a176 {args : List Value} {H : AHeap} {Q : Value → AHeap → Prop} (h : AWP Go.Proofs.Tryz.prog none R176.code (Fin R176 Q) (args ++ List.replicate (R176.ntmps - args.length) undef) H) : ACall Go.Proofs.Tryz.prog 176 args H Q := acall_intro mo Go.Proofs.Tryz.func176 c176 h

def R177 : RFunc :=
  ⟨(.seq (.ops [⟨(some 6), (.mov (.const (.int .u64 0))), none⟩, ⟨(some 7), (.mov (.const .nilIface)), none⟩]) (.seq (.seq (.ops [⟨(some 18), (.mov (.tmp 0)), none⟩, ⟨(some 19), (.strOp .eql (.tmp 18) (.const (.string ⟨#[]⟩))), none⟩]) (.cond (.tmp 19) (.seq (.ops [⟨(some 20), (.iface 201 (.const (.int .i64 2))), none⟩, ⟨(some 6), (.mov (.const (.int .u64 0))), none⟩, ⟨(some 7), (.mov (.tmp 20)), none⟩]) .ret) .skip)) (.seq (.ops [⟨(some 21), (.mov (.tmp 1)), none⟩, ⟨(some 22), (.cmp .eql (.tmp 21) (.const (.int .i64 0))), none⟩, ⟨(some 8), (.mov (.tmp 22)), none⟩]) (.seq (.ops [⟨(some 23), (.mov (.tmp 0)), none⟩, ⟨(some 9), (.mov (.tmp 23)), none⟩]) (.seq (.block 0 (.seq (.ops [⟨(some 26), (.mov (.tmp 1)), none⟩, ⟨(some 27), (.cmp .leq (.const (.int .i64 2)) (.tmp 26)), none⟩, ⟨(some 28), (.mov (.tmp 27)), none⟩, ⟨(some 29), (.mov (.tmp 1)), (some (28, true))⟩, ⟨(some 30), (.cmp .leq (.tmp 29) (.const (.int .i64 36))), (some (28, true))⟩, ⟨(some 31), (.pick (.tmp 28) (.tmp 30) (.const (.bool false))), none⟩, ⟨(some 25), (.mov (.tmp 31)), none⟩]) (.cond (.tmp 25) .skip (.seq (.ops [⟨(some 33), (.mov (.tmp 1)), none⟩, ⟨(some 34), (.cmp .eql (.tmp 33) (.const (.int .i64 0))), none⟩, ⟨(some 32), (.mov (.tmp 34)), none⟩]) (.cond (.tmp 32) (.seq (.ops [⟨(some 1), (.mov (.const (.int .i64 10))), none⟩]) (.seq (.ops [⟨(some 35), (.mov (.tmp 0)), none⟩, ⟨(some 36), (.idxS (.tmp 35) (.const (.int .i64 0))), none⟩, ⟨(some 37), (.cmp .eql (.tmp 36) (.const (.int .u8 48))), none⟩]) (.cond (.tmp 37) (.block 1 (.seq (.ops [⟨(some 41), (.mov (.tmp 0)), none⟩, ⟨(some 42), (.lenS (.tmp 41)), none⟩, ⟨(some 43), (.cmp .geq (.tmp 42) (.const (.int .i64 3))), none⟩, ⟨(some 44), (.mov (.tmp 43)), none⟩, ⟨(some 45), (.mov (.tmp 0)), (some (44, true))⟩, ⟨(some 46), (.idxS (.tmp 45) (.const (.int .i64 1))), (some (44, true))⟩, ⟨(some 47), (.call (.func 198) [(.tmp 46)]), (some (44, true))⟩, ⟨(some 48), (.cmp .eql (.tmp 47) (.const (.int .u8 98))), (some (44, true))⟩, ⟨(some 49), (.pick (.tmp 44) (.tmp 48) (.const (.bool false))), none⟩, ⟨(some 40), (.mov (.tmp 49)), none⟩]) (.cond (.tmp 40) (.seq (.ops [⟨(some 1), (.mov (.const (.int .i64 2))), none⟩]) (.ops [⟨(some 50), (.mov (.tmp 0)), none⟩, ⟨(some 51), (.sliceS (.tmp 50) (some (.const (.int .i64 2))) none), none⟩, ⟨(some 0), (.mov (.tmp 51)), none⟩])) (.seq (.ops [⟨(some 53), (.mov (.tmp 0)), none⟩, ⟨(some 54), (.lenS (.tmp 53)), none⟩, ⟨(some 55), (.cmp .geq (.tmp 54) (.const (.int .i64 3))), none⟩, ⟨(some 56), (.mov (.tmp 55)), none⟩, ⟨(some 57), (.mov (.tmp 0)), (some (56, true))⟩, ⟨(some 58), (.idxS (.tmp 57) (.const (.int .i64 1))), (some (56, true))⟩, ⟨(some 59), (.call (.func 198) [(.tmp 58)]), (some (56, true))⟩, ⟨(some 60), (.cmp .eql (.tmp 59) (.const (.int .u8 111))), (some (56, true))⟩, ⟨(some 61), (.pick (.tmp 56) (.tmp 60) (.const (.bool false))), none⟩, ⟨(some 52), (.mov (.tmp 61)), none⟩]) (.cond (.tmp 52) (.seq (.ops [⟨(some 1), (.mov (.const (.int .i64 8))), none⟩]) (.ops [⟨(some 62), (.mov (.tmp 0)), none⟩, ⟨(some 63), (.sliceS (.tmp 62) (some (.const (.int .i64 2))) none), none⟩, ⟨(some 0), (.mov (.tmp 63)), none⟩])) (.seq (.ops [⟨(some 65), (.mov (.tmp 0)), none⟩, ⟨(some 66), (.lenS (.tmp 65)), none⟩, ⟨(some 67), (.cmp .geq (.tmp 66) (.const (.int .i64 3))), none⟩, ⟨(some 68), (.mov (.tmp 67)), none⟩, ⟨(some 69), (.mov (.tmp 0)), (some (68, true))⟩, ⟨(some 70), (.idxS (.tmp 69) (.const (.int .i64 1))), (some (68, true))⟩, ⟨(some 71), (.call (.func 198) [(.tmp 70)]), (some (68, true))⟩, ⟨(some 72), (.cmp .eql (.tmp 71) (.const (.int .u8 120))), (some (68, true))⟩, ⟨(some 73), (.pick (.tmp 68) (.tmp 72) (.const (.bool false))), none⟩, ⟨(some 64), (.mov (.tmp 73)), none⟩]) (.cond (.tmp 64) (.seq (.ops [⟨(some 1), (.mov (.const (.int .i64 16))), none⟩]) (.ops [⟨(some 74), (.mov (.tmp 0)), none⟩, ⟨(some 75), (.sliceS (.tmp 74) (some (.const (.int .i64 2))) none), none⟩, ⟨(some 0), (.mov (.tmp 75)), none⟩])) (.seq (.ops [⟨(some 1), (.mov (.const (.int .i64 8))), none⟩]) (.ops [⟨(some 38), (.mov (.tmp 0)), none⟩, ⟨(some 39), (.sliceS (.tmp 38) (some (.const (.int .i64 1))) none), none⟩, ⟨(some 0), (.mov (.tmp 39)), none⟩]))))))))) .skip))) (.seq (.ops [⟨(some 24), (.iface 201 (.const (.int .i64 3))), none⟩, ⟨(some 6), (.mov (.const (.int .u64 0))), none⟩, ⟨(some 7), (.mov (.tmp 24)), none⟩]) .ret)))))) (.seq (.seq (.ops [⟨(some 76), (.mov (.tmp 2)), none⟩, ⟨(some 77), (.cmp .eql (.tmp 76) (.const (.int .i64 0))), none⟩]) (.cond (.tmp 77) (.ops [⟨(some 2), (.mov (.const (.int .i64 64))), none⟩]) (.seq (.ops [⟨(some 78), (.mov (.tmp 2)), none⟩, ⟨(some 79), (.cmp .lss (.tmp 78) (.const (.int .i64 0))), none⟩, ⟨(some 80), (.mov (.tmp 79)), none⟩, ⟨(some 81), (.mov (.tmp 2)), (some (80, false))⟩, ⟨(some 82), (.cmp .gtr (.tmp 81) (.const (.int .i64 64))), (some (80, false))⟩, ⟨(some 83), (.pick (.tmp 80) (.const (.bool true)) (.tmp 82)), none⟩]) (.cond (.tmp 83) (.seq (.ops [⟨(some 84), (.iface 201 (.const (.int .i64 4))), none⟩, ⟨(some 6), (.mov (.const (.int .u64 0))), none⟩, ⟨(some 7), (.mov (.tmp 84)), none⟩]) .ret) .skip)))) (.seq (.ops [⟨(some 10), (.mov (.const (.int .u64 0))), none⟩]) (.seq (.seq (.ops [⟨(some 85), (.mov (.tmp 1)), none⟩]) (.block 2 (.seq (.ops [⟨(some 91), (.cmp .eql (.tmp 85) (.const (.int .i64 10))), none⟩, ⟨(some 90), (.mov (.tmp 91)), none⟩]) (.cond (.tmp 90) (.ops [⟨(some 10), (.mov (.const (.int .u64 1844674407370955162))), none⟩]) (.seq (.ops [⟨(some 93), (.cmp .eql (.tmp 85) (.const (.int .i64 16))), none⟩, ⟨(some 92), (.mov (.tmp 93)), none⟩]) (.cond (.tmp 92) (.ops [⟨(some 10), (.mov (.const (.int .u64 1152921504606846976))), none⟩]) (.ops [⟨(some 86), (.mov (.tmp 1)), none⟩, ⟨(some 87), (.conv .u64 (.tmp 86)), none⟩, ⟨(some 88), (.arith .quo (.const (.int .u64 18446744073709551615)) (.tmp 87)), none⟩, ⟨(some 89), (.arith .add (.tmp 88) (.const (.int .u64 1))), none⟩, ⟨(some 10), (.mov (.tmp 89)), none⟩]))))))) (.seq (.ops [⟨(some 94), (.mov (.tmp 2)), none⟩, ⟨(some 95), (.conv .u64 (.tmp 94)), none⟩, ⟨(some 96), (.shl (.const (.int .u64 1)) (.tmp 95)), none⟩, ⟨(some 97), (.arith .sub (.tmp 96) (.const (.int .u64 1))), none⟩, ⟨(some 11), (.mov (.tmp 97)), none⟩]) (.seq (.ops [⟨(some 12), (.mov (.const (.bool false))), none⟩]) (.seq (.ops [⟨(some 13), (.mov (.const (.int .u64 0))), none⟩]) (.seq (.seq (.ops [⟨(some 98), (.mov (.tmp 0)), none⟩, ⟨(some 99), (.extract (.const (.chan none)) 0), none⟩, ⟨(some 100), (.len (.tmp 99)), none⟩, ⟨(some 101), (.mov (.const (.int .i64 0))), none⟩]) (.block 3 (.loop (.seq (.ops [⟨(some 102), (.cmp .lss (.tmp 101) (.tmp 100)), none⟩]) (.seq (.cond (.tmp 102) .skip (.exit 3)) (.seq (.block 4 (.seq (.ops [⟨(some 103), (.idxAddr 1 (.tmp 99) (.tmp 101)), none⟩, ⟨(some 104), (.load (.tmp 103)), none⟩, ⟨(some 15), (.mov (.tmp 104)), none⟩]) (.seq (.ops [⟨(some 16), (.mov (.const (.int .u8 0))), none⟩]) (.seq (.block 5 (.seq (.ops [⟨(some 107), (.mov (.tmp 15)), none⟩, ⟨(some 108), (.cmp .eql (.tmp 107) (.const (.int .u8 95))), none⟩, ⟨(some 109), (.mov (.tmp 108)), none⟩, ⟨(some 110), (.mov (.tmp 8)), (some (109, true))⟩, ⟨(some 111), (.pick (.tmp 109) (.tmp 110) (.const (.bool false))), none⟩, ⟨(some 106), (.mov (.tmp 111)), none⟩]) (.cond (.tmp 106) (.seq (.ops [⟨(some 12), (.mov (.const (.bool true))), none⟩]) (.exit 4)) (.seq (.ops [⟨(some 113), (.mov (.tmp 15)), none⟩, ⟨(some 114), (.cmp .leq (.const (.int .u8 48)) (.tmp 113)), none⟩, ⟨(some 115), (.mov (.tmp 114)), none⟩, ⟨(some 116), (.mov (.tmp 15)), (some (115, true))⟩, ⟨(some 117), (.cmp .leq (.tmp 116) (.const (.int .u8 57))), (some (115, true))⟩, ⟨(some 118), (.pick (.tmp 115) (.tmp 117) (.const (.bool false))), none⟩, ⟨(some 112), (.mov (.tmp 118)), none⟩]) (.cond (.tmp 112) (.ops [⟨(some 119), (.mov (.tmp 15)), none⟩, ⟨(some 120), (.arith .sub (.tmp 119) (.const (.int .u8 48))), none⟩, ⟨(some 16), (.mov (.tmp 120)), none⟩]) (.seq (.ops [⟨(some 122), (.mov (.tmp 15)), none⟩, ⟨(some 123), (.call (.func 198) [(.tmp 122)]), none⟩, ⟨(some 124), (.cmp .leq (.const (.int .u8 97)) (.tmp 123)), none⟩, ⟨(some 125), (.mov (.tmp 124)), none⟩, ⟨(some 126), (.mov (.tmp 15)), (some (125, true))⟩, ⟨(some 127), (.call (.func 198) [(.tmp 126)]), (some (125, true))⟩, ⟨(some 128), (.cmp .leq (.tmp 127) (.const (.int .u8 122))), (some (125, true))⟩, ⟨(some 129), (.pick (.tmp 125) (.tmp 128) (.const (.bool false))), none⟩, ⟨(some 121), (.mov (.tmp 129)), none⟩]) (.cond (.tmp 121) (.ops [⟨(some 130), (.mov (.tmp 15)), none⟩, ⟨(some 131), (.call (.func 198) [(.tmp 130)]), none⟩, ⟨(some 132), (.arith .sub (.tmp 131) (.const (.int .u8 97))), none⟩, ⟨(some 133), (.arith .add (.tmp 132) (.const (.int .u8 10))), none⟩, ⟨(some 16), (.mov (.tmp 133)), none⟩]) (.seq (.ops [⟨(some 105), (.iface 201 (.const (.int .i64 2))), none⟩, ⟨(some 6), (.mov (.const (.int .u64 0))), none⟩, ⟨(some 7), (.mov (.tmp 105)), none⟩]) .ret)))))))) (.seq (.seq (.ops [⟨(some 134), (.mov (.tmp 16)), none⟩, ⟨(some 135), (.mov (.tmp 1)), none⟩, ⟨(some 136), (.conv .u8 (.tmp 135)), none⟩, ⟨(some 137), (.cmp .geq (.tmp 134) (.tmp 136)), none⟩]) (.cond (.tmp 137) (.seq (.ops [⟨(some 138), (.iface 201 (.const (.int .i64 2))), none⟩, ⟨(some 6), (.mov (.const (.int .u64 0))), none⟩, ⟨(some 7), (.mov (.tmp 138)), none⟩]) .ret) .skip)) (.seq (.seq (.ops [⟨(some 139), (.mov (.tmp 13)), none⟩, ⟨(some 140), (.mov (.tmp 10)), none⟩, ⟨(some 141), (.cmp .geq (.tmp 139) (.tmp 140)), none⟩]) (.cond (.tmp 141) (.seq (.ops [⟨(some 142), (.mov (.tmp 11)), none⟩, ⟨(some 143), (.iface 201 (.const (.int .i64 1))), none⟩, ⟨(some 6), (.mov (.tmp 142)), none⟩, ⟨(some 7), (.mov (.tmp 143)), none⟩]) .ret) .skip)) (.seq (.ops [⟨(some 144), (.mov (.tmp 13)), none⟩, ⟨(some 145), (.mov (.tmp 1)), none⟩, ⟨(some 146), (.conv .u64 (.tmp 145)), none⟩, ⟨(some 147), (.arith .mul (.tmp 144) (.tmp 146)), none⟩, ⟨(some 13), (.mov (.tmp 147)), none⟩]) (.seq (.ops [⟨(some 148), (.mov (.tmp 13)), none⟩, ⟨(some 149), (.mov (.tmp 16)), none⟩, ⟨(some 150), (.conv .u64 (.tmp 149)), none⟩, ⟨(some 151), (.arith .add (.tmp 148) (.tmp 150)), none⟩, ⟨(some 17), (.mov (.tmp 151)), none⟩]) (.seq (.seq (.ops [⟨(some 152), (.mov (.tmp 17)), none⟩, ⟨(some 153), (.mov (.tmp 13)), none⟩, ⟨(some 154), (.cmp .lss (.tmp 152) (.tmp 153)), none⟩, ⟨(some 155), (.mov (.tmp 154)), none⟩, ⟨(some 156), (.mov (.tmp 17)), (some (155, false))⟩, ⟨(some 157), (.mov (.tmp 11)), (some (155, false))⟩, ⟨(some 158), (.cmp .gtr (.tmp 156) (.tmp 157)), (some (155, false))⟩, ⟨(some 159), (.pick (.tmp 155) (.const (.bool true)) (.tmp 158)), none⟩]) (.cond (.tmp 159) (.seq (.ops [⟨(some 160), (.mov (.tmp 11)), none⟩, ⟨(some 161), (.iface 201 (.const (.int .i64 1))), none⟩, ⟨(some 6), (.mov (.tmp 160)), none⟩, ⟨(some 7), (.mov (.tmp 161)), none⟩]) .ret) .skip)) (.ops [⟨(some 162), (.mov (.tmp 17)), none⟩, ⟨(some 13), (.mov (.tmp 162)), none⟩])))))))))) (.ops [⟨(some 163), (.arith .add (.tmp 101) (.const (.int .i64 1))), none⟩, ⟨(some 101), (.mov (.tmp 163)), none⟩]))))))) (.seq (.seq (.ops [⟨(some 164), (.mov (.tmp 12)), none⟩, ⟨(some 165), (.mov (.tmp 164)), none⟩, ⟨(some 166), (.mov (.tmp 9)), (some (165, true))⟩, ⟨(some 167), (.call (.func 199) [(.tmp 166)]), (some (165, true))⟩, ⟨(some 168), (.not (.tmp 167)), (some (165, true))⟩, ⟨(some 169), (.pick (.tmp 165) (.tmp 168) (.const (.bool false))), none⟩]) (.cond (.tmp 169) (.seq (.ops [⟨(some 170), (.iface 201 (.const (.int .i64 2))), none⟩, ⟨(some 6), (.mov (.const (.int .u64 0))), none⟩, ⟨(some 7), (.mov (.tmp 170)), none⟩]) .ret) .skip)) (.seq (.ops [⟨(some 171), (.mov (.tmp 13)), none⟩, ⟨(some 6), (.mov (.tmp 171)), none⟩, ⟨(some 7), (.mov (.const .nilIface)), none⟩]) .ret)))))))))))))), 172, [(.tmp 6), (.tmp 7)]⟩
theorem c177 : compileFn Go.Proofs.Tryz.prog Go.Proofs.Tryz.f177 = some R177 := by kernel_rfl
theorem n177 : R177.ntmps = 172 := rfl
theorem a177 {args : List Value} {H : AHeap} {Q : Value → AHeap → Prop} (h : AWP Go.Proofs.Tryz.prog none R177.code (Fin R177 Q) (args ++ List.replicate (R177.ntmps - args.length) undef) H) : ACall Go.Proofs.Tryz.prog 177 args H Q := acall_intro mo Go.Proofs.Tryz.func177 c177 h

def R178 : RFunc :=
  ⟨(.seq (.ops [⟨(some 2), (.mov (.const (.string ⟨#[]⟩))), none⟩]) (.seq (.seq (.ops [⟨(some 4), (.mov (.tmp 0)), none⟩, ⟨(some 5), (.lenS (.tmp 4)), none⟩, ⟨(some 6), (.cmp .eql (.tmp 5) (.const (.int .i64 0))), none⟩]) (.cond (.tmp 6) (.seq (.ops [⟨(some 2), (.mov (.const (.string ⟨#[]⟩))), none⟩]) .ret) .skip)) (.seq (.ops [⟨(some 7), (.mov (.tmp 0)), none⟩, ⟨(some 8), (.lenS (.tmp 7)), none⟩, ⟨(some 9), (.mkSlice 1 [(.int .u8 0)] (.tmp 8) (.tmp 8)), none⟩, ⟨(some 3), (.mov (.tmp 9)), none⟩]) (.seq (.ops [⟨(some 10), (.mov (.tmp 3)), none⟩, ⟨(some 11), (.mov (.tmp 0)), none⟩, ⟨(some 12), (.copy 1 (.tmp 10) (.tmp 11)), none⟩]) (.seq (.ops [⟨(some 13), (.mov (.tmp 3)), none⟩, ⟨(some 14), (.idxAddr 1 (.tmp 13) (.const (.int .i64 0))), none⟩, ⟨(some 15), (.mov (.tmp 3)), none⟩, ⟨(some 16), (.len (.tmp 15)), none⟩, ⟨(some 17), (.extract (.const (.chan none)) 0), none⟩, ⟨(some 2), (.mov (.tmp 17)), none⟩]) .ret))))), 18, [(.tmp 2)]⟩
theorem c178 : compileFn Go.Proofs.Tryz.prog Go.Proofs.Tryz.f178 = some R178 := by kernel_rfl
theorem n178 : R178.ntmps = 18 := rfl
theorem a178 {args : List Value} {H : AHeap} {Q : Value → AHeap → Prop} (h : AWP Go.Proofs.Tryz.prog none R178.code (Fin R178 Q) (args ++ List.replicate (R178.ntmps - args.length) undef) H) : ACall Go.Proofs.Tryz.prog 178 args H Q := acall_intro mo Go.Proofs.Tryz.func178 c178 h

def R179 : RFunc :=
  ⟨(.seq (.ops [⟨(some 2), (.mov (.const .nilIface)), none⟩]) (.seq (.ops [⟨(some 3), (.mov (.tmp 0)), none⟩, ⟨(some 4), (.build [(.string ⟨#[]⟩)] [(0, (1, (.tmp 3)))]), none⟩, ⟨(some 5), (.box (.tmp 4)), none⟩, ⟨(some 6), (.iface 253 (.tmp 5)), none⟩, ⟨(some 2), (.mov (.tmp 6)), none⟩]) .ret)), 7, [(.tmp 2)]⟩
theorem c179 : compileFn Go.Proofs.Tryz.prog Go.Proofs.Tryz.f179 = some R179 := by kernel_rfl
theorem n179 : R179.ntmps = 7 := rfl
theorem a179 {args : List Value} {H : AHeap} {Q : Value → AHeap → Prop} (h : AWP Go.Proofs.Tryz.prog none R179.code (Fin R179 Q) (args ++ List.replicate (R179.ntmps - args.length) undef) H) : ACall Go.Proofs.Tryz.prog 179 args H Q := acall_intro mo Go.Proofs.Tryz.func179 c179 h

def R183 : RFunc :=
  ⟨(.seq (.ops [⟨(some 4), (.mov (.const (.int .i64 0))), none⟩]) (.seq (.ops [⟨(some 5), (.mov (.tmp 0)), none⟩, ⟨(some 6), (.mov (.tmp 1)), none⟩, ⟨(some 7), (.call (.func 205) [(.tmp 5), (.tmp 6)]), none⟩, ⟨(some 4), (.mov (.tmp 7)), none⟩]) .ret)), 8, [(.tmp 4)]⟩
theorem c183 : compileFn Go.Proofs.Tryz.prog Go.Proofs.Tryz.f183 = some R183 := by kernel_rfl
theorem n183 : R183.ntmps = 8 := rfl
theorem a183 {args : List Value} {H : AHeap} {Q : Value → AHeap → Prop} (h : AWP Go.Proofs.Tryz.prog none R183.code (Fin R183 Q) (args ++ List.replicate (R183.ntmps - args.length) undef) H) : ACall Go.Proofs.Tryz.prog 183 args H Q := acall_intro mo Go.Proofs.Tryz.func183 c183 h

def R185 : RFunc :=
  ⟨(.seq (.ops [⟨(some 2), (.mov (.const (.int .i64 0))), none⟩]) (.seq (.ops [⟨(some 3), (.mov (.tmp 0)), none⟩, ⟨(some 4), (.arith .add (.tmp 3) (.const (.int .i64 16))), none⟩, ⟨(some 5), (.arith .quo (.tmp 4) (.const (.int .i64 8))), none⟩, ⟨(some 2), (.mov (.tmp 5)), none⟩]) .ret)), 6, [(.tmp 2)]⟩
theorem c185 : compileFn Go.Proofs.Tryz.prog Go.Proofs.Tryz.f185 = some R185 := by kernel_rfl
theorem n185 : R185.ntmps = 6 := rfl
theorem a185 {args : List Value} {H : AHeap} {Q : Value → AHeap → Prop} (h : AWP Go.Proofs.Tryz.prog none R185.code (Fin R185 Q) (args ++ List.replicate (R185.ntmps - args.length) undef) H) : ACall Go.Proofs.Tryz.prog 185 args H Q := acall_intro mo Go.Proofs.Tryz.func185 c185 h

def R186 : RFunc :=
  ⟨(.seq (.ops [⟨(some 4), (.mov (.const (.int .i64 0))), none⟩]) (.seq (.ops [⟨(some 12), (.mov (.tmp 1)), none⟩, ⟨(some 13), (.call (.func 206) [(.tmp 12)]), none⟩, ⟨(some 11), (.mov (.tmp 13)), none⟩, ⟨(some 14), (.extract (.tmp 11) 0), none⟩, ⟨(some 15), (.extract (.tmp 11) 1), none⟩, ⟨(some 5), (.mov (.tmp 14)), none⟩, ⟨(some 6), (.mov (.tmp 15)), none⟩]) (.seq (.ops [⟨(some 16), (.mov (.tmp 1)), none⟩, ⟨(some 17), (.lenS (.tmp 16)), none⟩, ⟨(some 7), (.mov (.tmp 17)), none⟩]) (.seq (.ops [⟨(some 8), (.mov (.const (.int .u32 0))), none⟩]) (.seq (.seq (.ops [⟨(some 9), (.mov (.const (.int .i64 0))), none⟩]) (.block 0 (.loop (.seq (.seq (.ops [⟨(some 18), (.mov (.tmp 9)), none⟩, ⟨(some 19), (.mov (.tmp 7)), none⟩, ⟨(some 20), (.cmp .lss (.tmp 18) (.tmp 19)), none⟩]) (.cond (.tmp 20) .skip (.exit 0))) (.seq (.block 1 (.ops [⟨(some 23), (.mov (.tmp 8)), none⟩, ⟨(some 24), (.arith .mul (.tmp 23) (.const (.int .u32 16777619))), none⟩, ⟨(some 25), (.mov (.tmp 0)), none⟩, ⟨(some 26), (.mov (.tmp 9)), none⟩, ⟨(some 27), (.idxS (.tmp 25) (.tmp 26)), none⟩, ⟨(some 28), (.conv .u32 (.tmp 27)), none⟩, ⟨(some 29), (.arith .add (.tmp 24) (.tmp 28)), none⟩, ⟨(some 8), (.mov (.tmp 29)), none⟩])) (.ops [⟨(some 21), (.mov (.tmp 9)), none⟩, ⟨(some 22), (.arith .add (.tmp 21) (.const (.int .i64 1))), none⟩, ⟨(some 9), (.mov (.tmp 22)), none⟩])))))) (.seq (.seq (.ops [⟨(some 30), (.mov (.tmp 8)), none⟩, ⟨(some 31), (.mov (.tmp 5)), none⟩, ⟨(some 32), (.cmp .eql (.tmp 30) (.tmp 31)), none⟩, ⟨(some 33), (.mov (.tmp 32)), none⟩, ⟨(some 34), (.mov (.tmp 0)), (some (33, true))⟩, ⟨(some 35), (.mov (.tmp 7)), (some (33, true))⟩, ⟨(some 36), (.sliceS (.tmp 34) none (some (.tmp 35))), (some (33, true))⟩, ⟨(some 37), (.mov (.tmp 1)), (some (33, true))⟩, ⟨(some 38), (.strOp .eql (.tmp 36) (.tmp 37)), (some (33, true))⟩, ⟨(some 39), (.pick (.tmp 33) (.tmp 38) (.const (.bool false))), none⟩]) (.cond (.tmp 39) (.seq (.ops [⟨(some 4), (.mov (.const (.int .i64 0))), none⟩]) .ret) .skip)) (.seq (.seq (.ops [⟨(some 40), (.mov (.tmp 7)), none⟩, ⟨(some 10), (.mov (.tmp 40)), none⟩]) (.block 2 (.loop (.seq (.seq (.ops [⟨(some 41), (.mov (.tmp 10)), none⟩, ⟨(some 42), (.mov (.tmp 0)), none⟩, ⟨(some 43), (.lenS (.tmp 42)), none⟩, ⟨(some 44), (.cmp .lss (.tmp 41) (.tmp 43)), none⟩]) (.cond (.tmp 44) .skip (.exit 2))) (.block 3 (.seq (.ops [⟨(some 45), (.mov (.tmp 8)), none⟩, ⟨(some 46), (.arith .mul (.tmp 45) (.const (.int .u32 16777619))), none⟩, ⟨(some 8), (.mov (.tmp 46)), none⟩]) (.seq (.ops [⟨(some 47), (.mov (.tmp 8)), none⟩, ⟨(some 48), (.mov (.tmp 0)), none⟩, ⟨(some 49), (.mov (.tmp 10)), none⟩, ⟨(some 50), (.idxS (.tmp 48) (.tmp 49)), none⟩, ⟨(some 51), (.conv .u32 (.tmp 50)), none⟩, ⟨(some 52), (.arith .add (.tmp 47) (.tmp 51)), none⟩, ⟨(some 8), (.mov (.tmp 52)), none⟩]) (.seq (.ops [⟨(some 53), (.mov (.tmp 8)), none⟩, ⟨(some 54), (.mov (.tmp 6)), none⟩, ⟨(some 55), (.mov (.tmp 0)), none⟩, ⟨(some 56), (.mov (.tmp 10)), none⟩, ⟨(some 57), (.mov (.tmp 7)), none⟩, ⟨(some 58), (.arith .sub (.tmp 56) (.tmp 57)), none⟩, ⟨(some 59), (.idxS (.tmp 55) (.tmp 58)), none⟩, ⟨(some 60), (.conv .u32 (.tmp 59)), none⟩, ⟨(some 61), (.arith .mul (.tmp 54) (.tmp 60)), none⟩, ⟨(some 62), (.arith .sub (.tmp 53) (.tmp 61)), none⟩, ⟨(some 8), (.mov (.tmp 62)), none⟩]) (.seq (.ops [⟨(some 63), (.mov (.tmp 10)), none⟩, ⟨(some 64), (.arith .add (.tmp 63) (.const (.int .i64 1))), none⟩, ⟨(some 10), (.mov (.tmp 64)), none⟩]) (.seq (.ops [⟨(some 65), (.mov (.tmp 8)), none⟩, ⟨(some 66), (.mov (.tmp 5)), none⟩, ⟨(some 67), (.cmp .eql (.tmp 65) (.tmp 66)), none⟩, ⟨(some 68), (.mov (.tmp 67)), none⟩, ⟨(some 69), (.mov (.tmp 0)), (some (68, true))⟩, ⟨(some 70), (.mov (.tmp 10)), (some (68, true))⟩, ⟨(some 71), (.mov (.tmp 7)), (some (68, true))⟩, ⟨(some 72), (.arith .sub (.tmp 70) (.tmp 71)), (some (68, true))⟩, ⟨(some 73), (.mov (.tmp 10)), (some (68, true))⟩, ⟨(some 74), (.sliceS (.tmp 69) (some (.tmp 72)) (some (.tmp 73))), (some (68, true))⟩, ⟨(some 75), (.mov (.tmp 1)), (some (68, true))⟩, ⟨(some 76), (.strOp .eql (.tmp 74) (.tmp 75)), (some (68, true))⟩, ⟨(some 77), (.pick (.tmp 68) (.tmp 76) (.const (.bool false))), none⟩]) (.cond (.tmp 77) (.seq (.ops [⟨(some 78), (.mov (.tmp 10)), none⟩, ⟨(some 79), (.mov (.tmp 7)), none⟩, ⟨(some 80), (.arith .sub (.tmp 78) (.tmp 79)), none⟩, ⟨(some 4), (.mov (.tmp 80)), none⟩]) .ret) .skip))))))))))) (.seq (.ops [⟨(some 4), (.mov (.const (.int .i64 (-1)))), none⟩]) .ret)))))))), 81, [(.tmp 4)]⟩
theorem c186 : compileFn Go.Proofs.Tryz.prog Go.Proofs.Tryz.f186 = some R186 := by kernel_rfl
theorem n186 : R186.ntmps = 81 := rfl
theorem a186 {args : List Value} {H : AHeap} {Q : Value → AHeap → Prop} (h : AWP Go.Proofs.Tryz.prog none R186.code (Fin R186 Q) (args ++ List.replicate (R186.ntmps - args.length) undef) H) : ACall Go.Proofs.Tryz.prog 186 args H Q := acall_intro mo Go.Proofs.Tryz.func186 c186 h

def R190 : RFunc :=
  ⟨(.seq (.ops [⟨(some 3), (.mov (.const (.bool false))), none⟩]) (.seq (.ops [⟨(some 4), (.mov (.tmp 0)), none⟩, ⟨(some 5), (.load (.tmp 1)), none⟩, ⟨(some 6), (.call (.func 77) [(.tmp 4), (.const (.int .i64 0)), (.tmp 5)]), none⟩, ⟨(some 7), (.not (.tmp 6)), none⟩, ⟨(some 3), (.mov (.tmp 7)), none⟩]) .ret)), 8, [(.tmp 3)]⟩
theorem c190 : compileFn Go.Proofs.Tryz.prog Go.Proofs.Tryz.f190 = some R190 := by kernel_rfl
theorem n190 : R190.ntmps = 8 := rfl
theorem a190 {args : List Value} {H : AHeap} {Q : Value → AHeap → Prop} (h : AWP Go.Proofs.Tryz.prog none R190.code (Fin R190 Q) (args ++ List.replicate (R190.ntmps - args.length) undef) H) : ACall Go.Proofs.Tryz.prog 190 args H Q := acall_intro mo Go.Proofs.Tryz.func190 c190 h

def R191 : RFunc :=
  ⟨(.seq (.ops [⟨(some 4), (.mov (.const (.int .u32 0))), none⟩, ⟨(some 5), (.mov (.const (.int .u32 0))), none⟩]) (.seq (.ops [⟨(some 7), (.mov (.tmp 0)), none⟩, ⟨(some 8), (.conv .u64 (.tmp 7)), none⟩, ⟨(some 9), (.mov (.tmp 1)), none⟩, ⟨(some 10), (.conv .u64 (.tmp 9)), none⟩, ⟨(some 11), (.arith .mul (.tmp 8) (.tmp 10)), none⟩, ⟨(some 6), (.mov (.tmp 11)), none⟩]) (.seq (.ops [⟨(some 12), (.mov (.tmp 6)), none⟩, ⟨(some 13), (.shr (.tmp 12) (.const (.int .u64 32))), none⟩, ⟨(some 14), (.conv .u32 (.tmp 13)), none⟩, ⟨(some 15), (.mov (.tmp 6)), none⟩, ⟨(some 16), (.conv .u32 (.tmp 15)), none⟩, ⟨(some 4), (.mov (.tmp 14)), none⟩, ⟨(some 5), (.mov (.tmp 16)), none⟩]) .ret))), 17, [(.tmp 4), (.tmp 5)]⟩
theorem c191 : compileFn Go.Proofs.Tryz.prog Go.Proofs.Tryz.f191 = some R191 := by kernel_rfl
theorem n191 : R191.ntmps = 17 := rfl
theorem a191 {args : List Value} {H : AHeap} {Q : Value → AHeap → Prop} (h : AWP Go.Proofs.Tryz.prog none R191.code (Fin R191 Q) (args ++ List.replicate (R191.ntmps - args.length) undef) H) : ACall Go.Proofs.Tryz.prog 191 args H Q := acall_intro mo Go.Proofs.Tryz.func191 c191 h

def R192 : RFunc :=
  ⟨(.seq (.ops [⟨(some 4), (.mov (.const (.int .u64 0))), none⟩, ⟨(some 5), (.mov (.const (.int .u64 0))), none⟩]) (.seq (.ops [⟨(some 14), (.mov (.tmp 0)), none⟩, ⟨(some 15), (.band (.tmp 14) (.const (.int .u64 4294967295))), none⟩, ⟨(some 6), (.mov (.tmp 15)), none⟩]) (.seq (.ops [⟨(some 16), (.mov (.tmp 0)), none⟩, ⟨(some 17), (.shr (.tmp 16) (.const (.int .u64 32))), none⟩, ⟨(some 7), (.mov (.tmp 17)), none⟩]) (.seq (.ops [⟨(some 18), (.mov (.tmp 1)), none⟩, ⟨(some 19), (.band (.tmp 18) (.const (.int .u64 4294967295))), none⟩, ⟨(some 8), (.mov (.tmp 19)), none⟩]) (.seq (.ops [⟨(some 20), (.mov (.tmp 1)), none⟩, ⟨(some 21), (.shr (.tmp 20) (.const (.int .u64 32))), none⟩, ⟨(some 9), (.mov (.tmp 21)), none⟩]) (.seq (.ops [⟨(some 22), (.mov (.tmp 6)), none⟩, ⟨(some 23), (.mov (.tmp 8)), none⟩, ⟨(some 24), (.arith .mul (.tmp 22) (.tmp 23)), none⟩, ⟨(some 10), (.mov (.tmp 24)), none⟩]) (.seq (.ops [⟨(some 25), (.mov (.tmp 7)), none⟩, ⟨(some 26), (.mov (.tmp 8)), none⟩, ⟨(some 27), (.arith .mul (.tmp 25) (.tmp 26)), none⟩, ⟨(some 28), (.mov (.tmp 10)), none⟩, ⟨(some 29), (.shr (.tmp 28) (.const (.int .u64 32))), none⟩, ⟨(some 30), (.arith .add (.tmp 27) (.tmp 29)), none⟩, ⟨(some 11), (.mov (.tmp 30)), none⟩]) (.seq (.ops [⟨(some 31), (.mov (.tmp 11)), none⟩, ⟨(some 32), (.band (.tmp 31) (.const (.int .u64 4294967295))), none⟩, ⟨(some 12), (.mov (.tmp 32)), none⟩]) (.seq (.ops [⟨(some 33), (.mov (.tmp 11)), none⟩, ⟨(some 34), (.shr (.tmp 33) (.const (.int .u64 32))), none⟩, ⟨(some 13), (.mov (.tmp 34)), none⟩]) (.seq (.ops [⟨(some 35), (.mov (.tmp 12)), none⟩, ⟨(some 36), (.mov (.tmp 6)), none⟩, ⟨(some 37), (.mov (.tmp 9)), none⟩, ⟨(some 38), (.arith .mul (.tmp 36) (.tmp 37)), none⟩, ⟨(some 39), (.arith .add (.tmp 35) (.tmp 38)), none⟩, ⟨(some 12), (.mov (.tmp 39)), none⟩]) (.seq (.ops [⟨(some 40), (.mov (.tmp 7)), none⟩, ⟨(some 41), (.mov (.tmp 9)), none⟩, ⟨(some 42), (.arith .mul (.tmp 40) (.tmp 41)), none⟩, ⟨(some 43), (.mov (.tmp 13)), none⟩, ⟨(some 44), (.arith .add (.tmp 42) (.tmp 43)), none⟩, ⟨(some 45), (.mov (.tmp 12)), none⟩, ⟨(some 46), (.shr (.tmp 45) (.const (.int .u64 32))), none⟩, ⟨(some 47), (.arith .add (.tmp 44) (.tmp 46)), none⟩, ⟨(some 4), (.mov (.tmp 47)), none⟩]) (.seq (.ops [⟨(some 48), (.mov (.tmp 0)), none⟩, ⟨(some 49), (.mov (.tmp 1)), none⟩, ⟨(some 50), (.arith .mul (.tmp 48) (.tmp 49)), none⟩, ⟨(some 5), (.mov (.tmp 50)), none⟩]) .ret)))))))))))), 51, [(.tmp 4), (.tmp 5)]⟩
theorem c192 : compileFn Go.Proofs.Tryz.prog Go.Proofs.Tryz.f192 = some R192 := by kernel_rfl
theorem n192 : R192.ntmps = 51 := rfl
theorem a192 {args : List Value} {H : AHeap} {Q : Value → AHeap → Prop} (h : AWP Go.Proofs.Tryz.prog none R192.code (Fin R192 Q) (args ++ List.replicate (R192.ntmps - args.length) undef) H) : ACall Go.Proofs.Tryz.prog 192 args H Q := acall_intro mo Go.Proofs.Tryz.func192 c192 h

def R193 : RFunc :=
  ⟨(.seq (.ops [⟨(some 2), (.mov (.const (.int .i64 0))), none⟩]) (.seq (.ops [⟨(some 3), (.mov (.tmp 0)), none⟩, ⟨(some 4), (.arith .mul (.tmp 3) (.const (.int .i64 78913))), none⟩, ⟨(some 5), (.shr (.tmp 4) (.const (.int .u64 18))), none⟩, ⟨(some 2), (.mov (.tmp 5)), none⟩]) .ret)), 6, [(.tmp 2)]⟩
theorem c193 : compileFn Go.Proofs.Tryz.prog Go.Proofs.Tryz.f193 = some R193 := by kernel_rfl
theorem n193 : R193.ntmps = 6 := rfl
theorem a193 {args : List Value} {H : AHeap} {Q : Value → AHeap → Prop} (h : AWP Go.Proofs.Tryz.prog none R193.code (Fin R193 Q) (args ++ List.replicate (R193.ntmps - args.length) undef) H) : ACall Go.Proofs.Tryz.prog 193 args H Q := acall_intro mo Go.Proofs.Tryz.func193 c193 h

def R194 : RFunc :=
  ⟨(.seq (.ops [⟨(some 2), (.mov (.const (.int .i64 0))), none⟩]) (.seq (.seq (.ops [⟨(some 3), (.mov (.tmp 0)), none⟩, ⟨(some 4), (.cmp .geq (.tmp 3) (.const (.int .u64 4294967296))), none⟩]) (.cond (.tmp 4) (.seq (.ops [⟨(some 5), (.mov (.tmp 0)), none⟩, ⟨(some 6), (.shr (.tmp 5) (.const (.int .u64 32))), none⟩, ⟨(some 0), (.mov (.tmp 6)), none⟩]) (.ops [⟨(some 2), (.mov (.const (.int .i64 32))), none⟩])) .skip)) (.seq (.seq (.ops [⟨(some 7), (.mov (.tmp 0)), none⟩, ⟨(some 8), (.cmp .geq (.tmp 7) (.const (.int .u64 65536))), none⟩]) (.cond (.tmp 8) (.seq (.ops [⟨(some 9), (.mov (.tmp 0)), none⟩, ⟨(some 10), (.shr (.tmp 9) (.const (.int .u64 16))), none⟩, ⟨(some 0), (.mov (.tmp 10)), none⟩]) (.ops [⟨(some 11), (.mov (.tmp 2)), none⟩, ⟨(some 12), (.arith .add (.tmp 11) (.const (.int .i64 16))), none⟩, ⟨(some 2), (.mov (.tmp 12)), none⟩])) .skip)) (.seq (.seq (.ops [⟨(some 13), (.mov (.tmp 0)), none⟩, ⟨(some 14), (.cmp .geq (.tmp 13) (.const (.int .u64 256))), none⟩]) (.cond (.tmp 14) (.seq (.ops [⟨(some 15), (.mov (.tmp 0)), none⟩, ⟨(some 16), (.shr (.tmp 15) (.const (.int .u64 8))), none⟩, ⟨(some 0), (.mov (.tmp 16)), none⟩]) (.ops [⟨(some 17), (.mov (.tmp 2)), none⟩, ⟨(some 18), (.arith .add (.tmp 17) (.const (.int .i64 8))), none⟩, ⟨(some 2), (.mov (.tmp 18)), none⟩])) .skip)) (.seq (.ops [⟨(some 19), (.mov (.tmp 2)), none⟩, ⟨(some 20), (.mov (.tmp 0)), none⟩, ⟨(some 21), (.conv .u8 (.tmp 20)), none⟩, ⟨(some 22), (.idxS (.const (.string ⟨#[0, 1, 2, 2, 3, 3, 3, 3, 4, 4, 4, 4, 4, 4, 4, 4, 5, 5, 5, 5, 5, 5, 5, 5, 5, 5, 5, 5, 5, 5, 5, 5, 6, 6, 6, 6, 6, 6, 6, 6, 6, 6, 6, 6, 6, 6, 6, 6, 6, 6, 6, 6, 6, 6, 6, 6, 6, 6, 6, 6, 6, 6, 6, 6, 7, 7, 7, 7, 7, 7, 7, 7, 7, 7, 7, 7, 7, 7, 7, 7, 7, 7, 7, 7, 7, 7, 7, 7, 7, 7, 7, 7, 7, 7, 7, 7, 7, 7, 7, 7, 7, 7, 7, 7, 7, 7, 7, 7, 7, 7, 7, 7, 7, 7, 7, 7, 7, 7, 7, 7, 7, 7, 7, 7, 7, 7, 7, 7, 8, 8, 8, 8, 8, 8, 8, 8, 8, 8, 8, 8, 8, 8, 8, 8, 8, 8, 8, 8, 8, 8, 8, 8, 8, 8, 8, 8, 8, 8, 8, 8, 8, 8, 8, 8, 8, 8, 8, 8, 8, 8, 8, 8, 8, 8, 8, 8, 8, 8, 8, 8, 8, 8, 8, 8, 8, 8, 8, 8, 8, 8, 8, 8, 8, 8, 8, 8, 8, 8, 8, 8, 8, 8, 8, 8, 8, 8, 8, 8, 8, 8, 8, 8, 8, 8, 8, 8, 8, 8, 8, 8, 8, 8, 8, 8, 8, 8, 8, 8, 8, 8, 8, 8, 8, 8, 8, 8, 8, 8, 8, 8, 8, 8, 8, 8, 8, 8, 8, 8, 8, 8, 8, 8, 8, 8, 8, 8]⟩)) (.tmp 21)), none⟩, ⟨(some 23), (.conv .i64 (.tmp 22)), none⟩, ⟨(some 24), (.arith .add (.tmp 19) (.tmp 23)), none⟩, ⟨(some 2), (.mov (.tmp 24)), none⟩]) .ret))))), 25, [(.tmp 2)]⟩
theorem c194 : compileFn Go.Proofs.Tryz.prog Go.Proofs.Tryz.f194 = some R194 := by kernel_rfl
theorem n194 : R194.ntmps = 25 := rfl
theorem a194 {args : List Value} {H : AHeap} {Q : Value → AHeap → Prop} (h : AWP Go.Proofs.Tryz.prog none R194.code (Fin R194 Q) (args ++ List.replicate (R194.ntmps - args.length) undef) H) : ACall Go.Proofs.Tryz.prog 194 args H Q := acall_intro mo Go.Proofs.Tryz.func194 c194 h

def R195 : RFunc :=
  ⟨(.seq (.ops [⟨(some 2), (.mov (.const (.int .i64 0))), none⟩]) (.seq (.seq (.ops [⟨(some 3), (.mov (.tmp 0)), none⟩]) (.cond (.tmp 3) (.seq (.ops [⟨(some 2), (.mov (.const (.int .i64 1))), none⟩]) .ret) .skip)) (.seq (.ops [⟨(some 2), (.mov (.const (.int .i64 0))), none⟩]) .ret))), 4, [(.tmp 2)]⟩
theorem c195 : compileFn Go.Proofs.Tryz.prog Go.Proofs.Tryz.f195 = some R195 := by kernel_rfl
theorem n195 : R195.ntmps = 4 := rfl
theorem a195 {args : List Value} {H : AHeap} {Q : Value → AHeap → Prop} (h : AWP Go.Proofs.Tryz.prog none R195.code (Fin R195 Q) (args ++ List.replicate (R195.ntmps - args.length) undef) H) : ACall Go.Proofs.Tryz.prog 195 args H Q := acall_intro mo Go.Proofs.Tryz.func195 c195 h

def R196 : RFunc :=
  ⟨(.seq (.ops [⟨(some 2), (.mov (.const (.bool false))), none⟩]) (.seq (.ops [⟨(some 3), (.mov (.tmp 0)), none⟩, ⟨(some 4), (.mov (.tmp 0)), none⟩, ⟨(some 5), (.arith .sub (.tmp 4) (.const (.int .i64 1))), none⟩, ⟨(some 6), (.band (.tmp 3) (.tmp 5)), none⟩, ⟨(some 7), (.cmp .eql (.tmp 6) (.const (.int .i64 0))), none⟩, ⟨(some 2), (.mov (.tmp 7)), none⟩]) .ret)), 8, [(.tmp 2)]⟩
theorem c196 : compileFn Go.Proofs.Tryz.prog Go.Proofs.Tryz.f196 = some R196 := by kernel_rfl
theorem n196 : R196.ntmps = 8 := rfl
theorem a196 {args : List Value} {H : AHeap} {Q : Value → AHeap → Prop} (h : AWP Go.Proofs.Tryz.prog none R196.code (Fin R196 Q) (args ++ List.replicate (R196.ntmps - args.length) undef) H) : ACall Go.Proofs.Tryz.prog 196 args H Q := acall_intro mo Go.Proofs.Tryz.func196 c196 h

def R197 : RFunc :=
  ⟨(.seq (.ops [⟨(some 2), (.mov (.const (.int .i64 0))), none⟩]) (.seq (.cond (.const (.bool false)) (.seq (.ops [⟨(some 3), (.mov (.tmp 0)), none⟩, ⟨(some 4), (.conv .u32 (.tmp 3)), none⟩, ⟨(some 5), (.call (.func 207) [(.tmp 4)]), none⟩, ⟨(some 2), (.mov (.tmp 5)), none⟩]) .ret) .skip) (.seq (.ops [⟨(some 6), (.mov (.tmp 0)), none⟩, ⟨(some 7), (.call (.func 208) [(.tmp 6)]), none⟩, ⟨(some 2), (.mov (.tmp 7)), none⟩]) .ret))), 8, [(.tmp 2)]⟩
theorem c197 : compileFn Go.Proofs.Tryz.prog Go.Proofs.Tryz.f197 = some R197 := by kernel_rfl
theorem n197 : R197.ntmps = 8 := rfl
theorem a197 {args : List Value} {H : AHeap} {Q : Value → AHeap → Prop} (h : AWP Go.Proofs.Tryz.prog none R197.code (Fin R197 Q) (args ++ List.replicate (R197.ntmps - args.length) undef) H) : ACall Go.Proofs.Tryz.prog 197 args H Q := acall_intro mo Go.Proofs.Tryz.func197 c197 h

def R198 : RFunc :=
  ⟨(.seq (.ops [⟨(some 2), (.mov (.const (.int .u8 0))), none⟩]) (.seq (.ops [⟨(some 3), (.mov (.tmp 0)), none⟩, ⟨(some 4), (.bor (.tmp 3) (.const (.int .u8 32))), none⟩, ⟨(some 2), (.mov (.tmp 4)), none⟩]) .ret)), 5, [(.tmp 2)]⟩
theorem c198 : compileFn Go.Proofs.Tryz.prog Go.Proofs.Tryz.f198 = some R198 := by kernel_rfl
theorem n198 : R198.ntmps = 5 := rfl
theorem a198 {args : List Value} {H : AHeap} {Q : Value → AHeap → Prop} (h : AWP Go.Proofs.Tryz.prog none R198.code (Fin R198 Q) (args ++ List.replicate (R198.ntmps - args.length) undef) H) : ACall Go.Proofs.Tryz.prog 198 args H Q := acall_intro mo Go.Proofs.Tryz.func198 c198 h

def R199 : RFunc :=
  ⟨(.seq (.ops [⟨(some 2), (.mov (.const (.bool false))), none⟩]) (.seq (.ops [⟨(some 3), (.mov (.const (.int .i32 94))), none⟩]) (.seq (.ops [⟨(some 4), (.mov (.const (.int .i64 0))), none⟩]) (.seq (.seq (.ops [⟨(some 6), (.mov (.tmp 0)), none⟩, ⟨(some 7), (.lenS (.tmp 6)), none⟩, ⟨(some 8), (.cmp .geq (.tmp 7) (.const (.int .i64 1))), none⟩, ⟨(some 9), (.mov (.tmp 8)), none⟩, ⟨(some 10), (.mov (.tmp 0)), (some (9, true))⟩, ⟨(some 11), (.idxS (.tmp 10) (.const (.int .i64 0))), (some (9, true))⟩, ⟨(some 12), (.cmp .eql (.tmp 11) (.const (.int .u8 45))), (some (9, true))⟩, ⟨(some 13), (.mov (.tmp 12)), (some (9, true))⟩, ⟨(some 14), (.mov (.tmp 0)), (some (13, false))⟩, ⟨(some 15), (.idxS (.tmp 14) (.const (.int .i64 0))), (some (13, false))⟩, ⟨(some 16), (.cmp .eql (.tmp 15) (.const (.int .u8 43))), (some (13, false))⟩, ⟨(some 17), (.pick (.tmp 13) (.const (.bool true)) (.tmp 16)), (some (9, true))⟩, ⟨(some 18), (.pick (.tmp 9) (.tmp 17) (.const (.bool false))), none⟩]) (.cond (.tmp 18) (.ops [⟨(some 19), (.mov (.tmp 0)), none⟩, ⟨(some 20), (.sliceS (.tmp 19) (some (.const (.int .i64 1))) none), none⟩, ⟨(some 0), (.mov (.tmp 20)), none⟩]) .skip)) (.seq (.ops [⟨(some 5), (.mov (.const (.bool false))), none⟩]) (.seq (.seq (.ops [⟨(some 21), (.mov (.tmp 0)), none⟩, ⟨(some 22), (.lenS (.tmp 21)), none⟩, ⟨(some 23), (.cmp .geq (.tmp 22) (.const (.int .i64 2))), none⟩, ⟨(some 24), (.mov (.tmp 23)), none⟩, ⟨(some 25), (.mov (.tmp 0)), (some (24, true))⟩, ⟨(some 26), (.idxS (.tmp 25) (.const (.int .i64 0))), (some (24, true))⟩, ⟨(some 27), (.cmp .eql (.tmp 26) (.const (.int .u8 48))), (some (24, true))⟩, ⟨(some 28), (.pick (.tmp 24) (.tmp 27) (.const (.bool false))), none⟩, ⟨(some 29), (.mov (.tmp 28)), none⟩, ⟨(some 30), (.mov (.tmp 0)), (some (29, true))⟩, ⟨(some 31), (.idxS (.tmp 30) (.const (.int .i64 1))), (some (29, true))⟩, ⟨(some 32), (.call (.func 198) [(.tmp 31)]), (some (29, true))⟩, ⟨(some 33), (.cmp .eql (.tmp 32) (.const (.int .u8 98))), (some (29, true))⟩, ⟨(some 34), (.mov (.tmp 33)), (some (29, true))⟩, ⟨(some 35), (.mov (.tmp 0)), (some (34, false))⟩, ⟨(some 36), (.idxS (.tmp 35) (.const (.int .i64 1))), (some (34, false))⟩, ⟨(some 37), (.call (.func 198) [(.tmp 36)]), (some (34, false))⟩, ⟨(some 38), (.cmp .eql (.tmp 37) (.const (.int .u8 111))), (some (34, false))⟩, ⟨(some 39), (.pick (.tmp 34) (.const (.bool true)) (.tmp 38)), (some (29, true))⟩, ⟨(some 40), (.mov (.tmp 39)), (some (29, true))⟩, ⟨(some 41), (.mov (.tmp 0)), (some (40, false))⟩, ⟨(some 42), (.idxS (.tmp 41) (.const (.int .i64 1))), (some (40, false))⟩, ⟨(some 43), (.call (.func 198) [(.tmp 42)]), (some (40, false))⟩, ⟨(some 44), (.cmp .eql (.tmp 43) (.const (.int .u8 120))), (some (40, false))⟩, ⟨(some 45), (.pick (.tmp 40) (.const (.bool true)) (.tmp 44)), (some (29, true))⟩, ⟨(some 46), (.pick (.tmp 29) (.tmp 45) (.const (.bool false))), none⟩]) (.cond (.tmp 46) (.seq (.ops [⟨(some 4), (.mov (.const (.int .i64 2))), none⟩]) (.seq (.ops [⟨(some 3), (.mov (.const (.int .i32 48))), none⟩]) (.ops [⟨(some 47), (.mov (.tmp 0)), none⟩, ⟨(some 48), (.idxS (.tmp 47) (.const (.int .i64 1))), none⟩, ⟨(some 49), (.call (.func 198) [(.tmp 48)]), none⟩, ⟨(some 50), (.cmp .eql (.tmp 49) (.const (.int .u8 120))), none⟩, ⟨(some 5), (.mov (.tmp 50)), none⟩]))) .skip)) (.seq (.block 0 (.loop (.seq (.seq (.ops [⟨(some 51), (.mov (.tmp 4)), none⟩, ⟨(some 52), (.mov (.tmp 0)), none⟩, ⟨(some 53), (.lenS (.tmp 52)), none⟩, ⟨(some 54), (.cmp .lss (.tmp 51) (.tmp 53)), none⟩]) (.cond (.tmp 54) .skip (.exit 0))) (.seq (.block 1 (.seq (.seq (.ops [⟨(some 57), (.mov (.tmp 0)), none⟩, ⟨(some 58), (.mov (.tmp 4)), none⟩, ⟨(some 59), (.idxS (.tmp 57) (.tmp 58)), none⟩, ⟨(some 60), (.cmp .leq (.const (.int .u8 48)) (.tmp 59)), none⟩, ⟨(some 61), (.mov (.tmp 60)), none⟩, ⟨(some 62), (.mov (.tmp 0)), (some (61, true))⟩, ⟨(some 63), (.mov (.tmp 4)), (some (61, true))⟩, ⟨(some 64), (.idxS (.tmp 62) (.tmp 63)), (some (61, true))⟩, ⟨(some 65), (.cmp .leq (.tmp 64) (.const (.int .u8 57))), (some (61, true))⟩, ⟨(some 66), (.pick (.tmp 61) (.tmp 65) (.const (.bool false))), none⟩, ⟨(some 67), (.mov (.tmp 66)), none⟩, ⟨(some 68), (.mov (.tmp 5)), (some (67, false))⟩, ⟨(some 69), (.mov (.tmp 68)), (some (67, false))⟩, ⟨(some 70), (.mov (.tmp 0)), (some (69, true))⟩, ⟨(some 71), (.mov (.tmp 4)), (some (69, true))⟩, ⟨(some 72), (.idxS (.tmp 70) (.tmp 71)), (some (69, true))⟩, ⟨(some 73), (.call (.func 198) [(.tmp 72)]), (some (69, true))⟩, ⟨(some 74), (.cmp .leq (.const (.int .u8 97)) (.tmp 73)), (some (69, true))⟩, ⟨(some 75), (.pick (.tmp 69) (.tmp 74) (.const (.bool false))), (some (67, false))⟩, ⟨(some 76), (.mov (.tmp 75)), (some (67, false))⟩, ⟨(some 77), (.mov (.tmp 0)), (some (76, true))⟩, ⟨(some 78), (.mov (.tmp 4)), (some (76, true))⟩, ⟨(some 79), (.idxS (.tmp 77) (.tmp 78)), (some (76, true))⟩, ⟨(some 80), (.call (.func 198) [(.tmp 79)]), (some (76, true))⟩, ⟨(some 81), (.cmp .leq (.tmp 80) (.const (.int .u8 102))), (some (76, true))⟩, ⟨(some 82), (.pick (.tmp 76) (.tmp 81) (.const (.bool false))), (some (67, false))⟩, ⟨(some 83), (.pick (.tmp 67) (.const (.bool true)) (.tmp 82)), none⟩]) (.cond (.tmp 83) (.seq (.ops [⟨(some 3), (.mov (.const (.int .i32 48))), none⟩]) (.exit 1)) .skip)) (.seq (.seq (.ops [⟨(some 84), (.mov (.tmp 0)), none⟩, ⟨(some 85), (.mov (.tmp 4)), none⟩, ⟨(some 86), (.idxS (.tmp 84) (.tmp 85)), none⟩, ⟨(some 87), (.cmp .eql (.tmp 86) (.const (.int .u8 95))), none⟩]) (.cond (.tmp 87) (.seq (.seq (.ops [⟨(some 88), (.mov (.tmp 3)), none⟩, ⟨(some 89), (.cmp .neq (.tmp 88) (.const (.int .i32 48))), none⟩]) (.cond (.tmp 89) (.seq (.ops [⟨(some 2), (.mov (.const (.bool false))), none⟩]) .ret) .skip)) (.seq (.ops [⟨(some 3), (.mov (.const (.int .i32 95))), none⟩]) (.exit 1))) .skip)) (.seq (.seq (.ops [⟨(some 90), (.mov (.tmp 3)), none⟩, ⟨(some 91), (.cmp .eql (.tmp 90) (.const (.int .i32 95))), none⟩]) (.cond (.tmp 91) (.seq (.ops [⟨(some 2), (.mov (.const (.bool false))), none⟩]) .ret) .skip)) (.ops [⟨(some 3), (.mov (.const (.int .i32 33))), none⟩]))))) (.ops [⟨(some 55), (.mov (.tmp 4)), none⟩, ⟨(some 56), (.arith .add (.tmp 55) (.const (.int .i64 1))), none⟩, ⟨(some 4), (.mov (.tmp 56)), none⟩]))))) (.seq (.ops [⟨(some 92), (.mov (.tmp 3)), none⟩, ⟨(some 93), (.cmp .neq (.tmp 92) (.const (.int .i32 95))), none⟩, ⟨(some 2), (.mov (.tmp 93)), none⟩]) .ret)))))))), 94, [(.tmp 2)]⟩
theorem c199 : compileFn Go.Proofs.Tryz.prog Go.Proofs.Tryz.f199 = some R199 := by kernel_rfl
theorem n199 : R199.ntmps = 94 := rfl
theorem a199 {args : List Value} {H : AHeap} {Q : Value → AHeap → Prop} (h : AWP Go.Proofs.Tryz.prog none R199.code (Fin R199 Q) (args ++ List.replicate (R199.ntmps - args.length) undef) H) : ACall Go.Proofs.Tryz.prog 199 args H Q := acall_intro mo Go.Proofs.Tryz.func199 c199 h

def R206 : RFunc :=
  ⟨(.seq (.ops [⟨(some 2), (.mov (.const (.int .u32 0))), none⟩, ⟨(some 3), (.mov (.const (.int .u32 0))), none⟩]) (.seq (.ops [⟨(some 4), (.mov (.const (.int .u32 0))), none⟩]) (.seq (.seq (.ops [⟨(some 5), (.mov (.const (.int .i64 0))), none⟩]) (.block 0 (.loop (.seq (.seq (.ops [⟨(some 9), (.mov (.tmp 5)), none⟩, ⟨(some 10), (.mov (.tmp 0)), none⟩, ⟨(some 11), (.lenS (.tmp 10)), none⟩, ⟨(some 12), (.cmp .lss (.tmp 9) (.tmp 11)), none⟩]) (.cond (.tmp 12) .skip (.exit 0))) (.seq (.block 1 (.ops [⟨(some 15), (.mov (.tmp 4)), none⟩, ⟨(some 16), (.arith .mul (.tmp 15) (.const (.int .u32 16777619))), none⟩, ⟨(some 17), (.mov (.tmp 0)), none⟩, ⟨(some 18), (.mov (.tmp 5)), none⟩, ⟨(some 19), (.idxS (.tmp 17) (.tmp 18)), none⟩, ⟨(some 20), (.conv .u32 (.tmp 19)), none⟩, ⟨(some 21), (.arith .add (.tmp 16) (.tmp 20)), none⟩, ⟨(some 4), (.mov (.tmp 21)), none⟩])) (.ops [⟨(some 13), (.mov (.tmp 5)), none⟩, ⟨(some 14), (.arith .add (.tmp 13) (.const (.int .i64 1))), none⟩, ⟨(some 5), (.mov (.tmp 14)), none⟩])))))) (.seq (.ops [⟨(some 6), (.mov (.const (.int .u32 1))), none⟩, ⟨(some 7), (.mov (.const (.int .u32 16777619))), none⟩]) (.seq (.seq (.ops [⟨(some 22), (.mov (.tmp 0)), none⟩, ⟨(some 23), (.lenS (.tmp 22)), none⟩, ⟨(some 8), (.mov (.tmp 23)), none⟩]) (.block 2 (.loop (.seq (.seq (.ops [⟨(some 24), (.mov (.tmp 8)), none⟩, ⟨(some 25), (.cmp .gtr (.tmp 24) (.const (.int .i64 0))), none⟩]) (.cond (.tmp 25) .skip (.exit 2))) (.seq (.block 3 (.seq (.seq (.ops [⟨(some 28), (.mov (.tmp 8)), none⟩, ⟨(some 29), (.band (.tmp 28) (.const (.int .i64 1))), none⟩, ⟨(some 30), (.cmp .neq (.tmp 29) (.const (.int .i64 0))), none⟩]) (.cond (.tmp 30) (.ops [⟨(some 31), (.mov (.tmp 6)), none⟩, ⟨(some 32), (.mov (.tmp 7)), none⟩, ⟨(some 33), (.arith .mul (.tmp 31) (.tmp 32)), none⟩, ⟨(some 6), (.mov (.tmp 33)), none⟩]) .skip)) (.ops [⟨(some 34), (.mov (.tmp 7)), none⟩, ⟨(some 35), (.mov (.tmp 7)), none⟩, ⟨(some 36), (.arith .mul (.tmp 34) (.tmp 35)), none⟩, ⟨(some 7), (.mov (.tmp 36)), none⟩]))) (.ops [⟨(some 26), (.mov (.tmp 8)), none⟩, ⟨(some 27), (.shr (.tmp 26) (.const (.int .u64 1))), none⟩, ⟨(some 8), (.mov (.tmp 27)), none⟩])))))) (.seq (.ops [⟨(some 37), (.mov (.tmp 4)), none⟩, ⟨(some 38), (.mov (.tmp 6)), none⟩, ⟨(some 2), (.mov (.tmp 37)), none⟩, ⟨(some 3), (.mov (.tmp 38)), none⟩]) .ret)))))), 39, [(.tmp 2), (.tmp 3)]⟩
theorem c206 : compileFn Go.Proofs.Tryz.prog Go.Proofs.Tryz.f206 = some R206 := by kernel_rfl
theorem n206 : R206.ntmps = 39 := rfl
theorem a206 {args : List Value} {H : AHeap} {Q : Value → AHeap → Prop} (h : AWP Go.Proofs.Tryz.prog none R206.code (Fin R206 Q) (args ++ List.replicate (R206.ntmps - args.length) undef) H) : ACall Go.Proofs.Tryz.prog 206 args H Q := acall_intro mo Go.Proofs.Tryz.func206 c206 h

def R207 : RFunc :=
  ⟨(.seq (.ops [⟨(some 2), (.mov (.const (.int .i64 0))), none⟩]) (.seq (.seq (.ops [⟨(some 3), (.mov (.tmp 0)), none⟩, ⟨(some 4), (.cmp .eql (.tmp 3) (.const (.int .u32 0))), none⟩]) (.cond (.tmp 4) (.seq (.ops [⟨(some 2), (.mov (.const (.int .i64 32))), none⟩]) .ret) .skip)) (.seq (.ops [⟨(some 5), (.mov (.tmp 0)), none⟩, ⟨(some 6), (.mov (.tmp 0)), none⟩, ⟨(some 7), (.neg (.tmp 6)), none⟩, ⟨(some 8), (.band (.tmp 5) (.tmp 7)), none⟩, ⟨(some 9), (.arith .mul (.tmp 8) (.const (.int .u32 125613361))), none⟩, ⟨(some 10), (.shr (.tmp 9) (.const (.int .u64 27))), none⟩, ⟨(some 11), (.idxAddrA 32 1 (.global 11) (.tmp 10)), none⟩, ⟨(some 12), (.load (.tmp 11)), none⟩, ⟨(some 13), (.conv .i64 (.tmp 12)), none⟩, ⟨(some 2), (.mov (.tmp 13)), none⟩]) .ret))), 14, [(.tmp 2)]⟩
theorem c207 : compileFn Go.Proofs.Tryz.prog Go.Proofs.Tryz.f207 = some R207 := by kernel_rfl
theorem n207 : R207.ntmps = 14 := rfl
theorem a207 {args : List Value} {H : AHeap} {Q : Value → AHeap → Prop} (h : AWP Go.Proofs.Tryz.prog none R207.code (Fin R207 Q) (args ++ List.replicate (R207.ntmps - args.length) undef) H) : ACall Go.Proofs.Tryz.prog 207 args H Q := acall_intro mo Go.Proofs.Tryz.func207 c207 h

def R208 : RFunc :=
  ⟨(.seq (.ops [⟨(some 2), (.mov (.const (.int .i64 0))), none⟩]) (.seq (.seq (.ops [⟨(some 3), (.mov (.tmp 0)), none⟩, ⟨(some 4), (.cmp .eql (.tmp 3) (.const (.int .u64 0))), none⟩]) (.cond (.tmp 4) (.seq (.ops [⟨(some 2), (.mov (.const (.int .i64 64))), none⟩]) .ret) .skip)) (.seq (.ops [⟨(some 5), (.mov (.tmp 0)), none⟩, ⟨(some 6), (.mov (.tmp 0)), none⟩, ⟨(some 7), (.neg (.tmp 6)), none⟩, ⟨(some 8), (.band (.tmp 5) (.tmp 7)), none⟩, ⟨(some 9), (.arith .mul (.tmp 8) (.const (.int .u64 285870213051353865))), none⟩, ⟨(some 10), (.shr (.tmp 9) (.const (.int .u64 58))), none⟩, ⟨(some 11), (.idxAddrA 64 1 (.global 12) (.tmp 10)), none⟩, ⟨(some 12), (.load (.tmp 11)), none⟩, ⟨(some 13), (.conv .i64 (.tmp 12)), none⟩, ⟨(some 2), (.mov (.tmp 13)), none⟩]) .ret))), 14, [(.tmp 2)]⟩
theorem c208 : compileFn Go.Proofs.Tryz.prog Go.Proofs.Tryz.f208 = some R208 := by kernel_rfl
theorem n208 : R208.ntmps = 14 := rfl
theorem a208 {args : List Value} {H : AHeap} {Q : Value → AHeap → Prop} (h : AWP Go.Proofs.Tryz.prog none R208.code (Fin R208 Q) (args ++ List.replicate (R208.ntmps - args.length) undef) H) : ACall Go.Proofs.Tryz.prog 208 args H Q := acall_intro mo Go.Proofs.Tryz.func208 c208 h

end Go.Lq

namespace Go.Lq
open Go

section
variable {H : AHeap}

theorem within_c (n lo hi : Int) : ACall Go.Proofs.Tryz.prog 77 [.int .i64 n, .int .i64 lo, .int .i64 hi] H fun v H' => v = .bool (decide (lo ≤ n ∧ n ≤ hi)) ∧ H' = H := by
  (refine a77 ?_; simp only [n77, List.replicate, yq, yr, yt, yu]; first | refine q1 ?_ | refine q2 ?_ | refine q6 ?_ | refine q7 ?_ | refine qh rfl ?_ | skip)
  refine yx ?_; (refine aops_until (by simp (disch := first|exact zz|fail) only [go_sem]; with_reducible rfl) ?_); refine yx ?_
  by_cases h : lo ≤ n
  · (refine aops_until (by simp (disch := first|exact zz|fail) only [go_sem, h]; with_reducible rfl) ?_)
    refine yx ?_
    refine fin_1 ⟨?_, rfl⟩
    simp [h]
  · (refine aops_until (by simp (disch := first|exact zz|fail) only [go_sem, h]; with_reducible rfl) ?_)
    refine yx ?_
    refine fin_1 ⟨?_, rfl⟩
    simp [h]

theorem bwithin_c (n lo hi : Int) : ACall Go.Proofs.Tryz.prog 47 [.int .i64 n, .int .i64 lo, .int .i64 hi] H fun v H' => v = .bool (decide (lo ≤ n ∧ n ≤ hi)) ∧ H' = H := by
  (refine a47 ?_; simp only [n47, List.replicate, yq, yr, yt, yu]; first | refine q1 ?_ | refine q2 ?_ | refine q6 ?_ | refine q7 ?_ | refine qh rfl ?_ | skip)
  refine yx ?_; (refine aops_until (by simp (disch := first|exact zz|fail) only [go_sem]; with_reducible rfl) ?_); refine yx ?_
  by_cases h : lo ≤ n
  · (refine aops_until (by simp (disch := first|exact zz|fail) only [go_sem, h]; with_reducible rfl) ?_)
    refine yx ?_
    refine fin_1 ⟨?_, rfl⟩
    simp [h]
  · (refine aops_until (by simp (disch := first|exact zz|fail) only [go_sem, h]; with_reducible rfl) ?_)
    refine yx ?_
    refine fin_1 ⟨?_, rfl⟩
    simp [h]

theorem isSized_c (n m : Int) (hm : -9223372036854775807 ≤ m ∧ m ≤ 9223372036854775807) : ACall Go.Proofs.Tryz.prog 86 [.int .i64 n, .int .i64 m] H fun v H' => v = .bool (decide (-m ≤ n ∧ n ≤ m)) ∧ H' = H := by
  (refine a86 ?_; simp only [n86, List.replicate, yq, yr, yt, yu]; first | refine q1 ?_ | refine q2 ?_ | refine q6 ?_ | refine q7 ?_ | refine qh rfl ?_ | skip)
  refine yx ?_; (refine aops_until (by simp (disch := first|exact zz|fail) only [go_sem]; with_reducible rfl) ?_); refine yx ?_
  (refine aops_until (by simp (disch := first|exact zz|fail) only [go_sem]; with_reducible rfl) ?_)
  refine aops_call_to (within_c _ _ _) ?_
  (refine aops_until (by simp (disch := first|exact zz|fail) only [go_sem]; with_reducible rfl) ?_)
  refine yx ?_
  refine fin_1 ⟨?_, rfl⟩
  simp

theorem unless_c (b : Bool) (e : Int) : ACall Go.Proofs.Tryz.prog 76 [.bool b, .int .i64 e] H fun v H' => v = .int .i64 (if b then 0 else e) ∧ H' = H := by
  (refine a76 ?_; simp only [n76, List.replicate, yq, yr, yt, yu]; first | refine q1 ?_ | refine q2 ?_ | refine q6 ?_ | refine q7 ?_ | refine qh rfl ?_ | skip)
  refine yx ?_; (refine aops_until (by simp (disch := first|exact zz|fail) only [go_sem]; with_reducible rfl) ?_); refine yx ?_; (refine aops_until (by simp (disch := first|exact zz|fail) only [go_sem]; with_reducible rfl) ?_); refine yx ?_
  cases b with
  | true =>
    refine cond_t rfl ?_
    refine yx ?_; (refine aops_until (by simp (disch := first|exact zz|fail) only [go_sem]; with_reducible rfl) ?_); refine yx ?_
    exact fin_1 ⟨rfl, rfl⟩
  | false =>
    refine cond_f rfl ?_
    refine yx ?_; (refine aops_until (by simp (disch := first|exact zz|fail) only [go_sem]; with_reducible rfl) ?_); refine yx ?_
    exact fin_1 ⟨rfl, rfl⟩

def firstErr (l : List Int) : Int := (l.find? (fun e => decide (e ≠ 0))).getD 0

theorem firstErr_nil : firstErr [] = 0 := rfl
theorem firstErr_z (l : List Int) : firstErr (0 :: l) = firstErr l := by simp [firstErr]
theorem firstErr_e {e : Int} (h : e ≠ 0) (l : List Int) : firstErr (e :: l) = e := by simp [firstErr, h]
theorem ite_tt {α : Type} (a b : α) : (if true = true then a else b) = a := rfl
theorem ite_ft {α : Type} (a b : α) : (if false = true then a else b) = b := rfl
attribute [go_sem] firstErr_nil firstErr_z firstErr_e ite_tt ite_ft if_true if_false

theorem first_c {l : List Int} {v : Value} (hl : Ints H l v) (hb : l.length ≤ 1000000) : ACall Go.Proofs.Tryz.prog 74 [v] H fun v H' => v = .int .i64 (firstErr l) ∧ H' = H := by
  (refine a74 ?_; simp only [n74, List.replicate, yq, yr, yt, yu]; first | refine q1 ?_ | refine q2 ?_ | refine q6 ?_ | refine q7 ?_ | refine qh rfl ?_ | skip)
  refine yx ?_; (refine aops_until (by simp (disch := first|exact zz|fail) only [go_sem]; with_reducible rfl) ?_); refine yx ?_; (refine aops_until (by simp (disch := first|exact zz|fail) only [go_sem, hl.len, hl.idx, hl.load]; with_reducible rfl) ?_); refine yx ?_
  refine awp_loop_n [true, false, true, false, false, true, true, true, false, false, false, false, false, false, false] l.length (fun i e H' => H' = H ∧ e = [v, junk, .int .i64 0, junk, junk, v, .int .i64 l.length, .int .i64 i, junk, junk, junk, junk, junk, junk, junk] ∧ ∀ j < i, l.getD j 0 = 0) ?_ ?_
  · exact ⟨rfl, rfl, by omega⟩
  · rintro i e H' hi ⟨rfl, rfl, hp⟩
    refine yx ?_; (refine aops_until (by simp (disch := first|exact zz|fail) only [go_sem, hl.len, hl.idx, hl.load]; with_reducible rfl) ?_); refine yx ?_
    refine cond_p rfl (fun hlt => ?_) (fun hge => ?_)
    · refine yx ?_; (refine aops_until (by simp (disch := first|exact zz|fail) only [go_sem, hl.len, hl.idx, hl.load]; with_reducible rfl) ?_); refine yx ?_; (refine aops_until (by simp (disch := first|exact zz|fail) only [go_sem]; with_reducible rfl) ?_); refine yx ?_
      refine cond_p rfl (fun hne => ?_) (fun heq => ?_)
      · refine yx ?_; (refine aops_until (by simp (disch := first|exact zz|fail) only [go_sem]; with_reducible rfl) ?_); refine yx ?_
        refine fin_1 ⟨?_, rfl⟩
        unfold firstErr
        rw [find_at (d := 0) (i := i) (by omega) (fun j hj => by simpa using hp j hj) (by simpa using hne)]
        rfl
      · refine yx ?_; (refine aops_until (by simp (disch := first|exact zz|fail) only [go_sem]; with_reducible rfl) ?_); refine yx ?_
        refine ⟨by omega, rfl, ?_, fun j hj => ?_⟩
        · simp [forget]
        · by_cases h : j = i
          · subst h; simpa using heq
          · exact hp j (by omega)
    · refine yx ?_; (refine aops_until (by simp (disch := first|exact zz|fail) only [go_sem]; with_reducible rfl) ?_); refine yx ?_
      refine fin_1 ⟨?_, rfl⟩
      unfold firstErr
      rw [find_none (d := 0) (fun j hj => by simpa using hp j (by omega))]
      rfl

def Asks (fv : Value) (p : Int → Bool) : Prop := ∀ n H, AInvoke Go.Proofs.Tryz.prog fv [.int .i64 n] H fun v H' => v = .bool (p n) ∧ H' = H

theorem indexFunc_c {l : List Int} {v fv : Value} {p : Int → Bool} (hl : Ints H l v) (hf : Asks fv p) (hb : l.length ≤ 1000000000) :
    ACall Go.Proofs.Tryz.prog 149 [v, fv] H fun v H' => (∃ i : Int, v = .int .i64 i ∧ (l.any p = decide (0 ≤ i))) ∧ H' = H := by
  (refine a149 ?_; simp only [n149, List.replicate, yq, yr, yt, yu]; first | refine q1 ?_ | refine q2 ?_ | refine q6 ?_ | refine q7 ?_ | refine qh rfl ?_ | skip)
  refine yx ?_; (refine aops_until (by simp (disch := first|exact zz|fail) only [go_sem]; with_reducible rfl) ?_); refine yx ?_; (refine aops_until (by simp (disch := first|exact zz|fail) only [go_sem, hl.len, hl.idx, hl.load]; with_reducible rfl) ?_); refine yx ?_
  refine awp_loop_n [true, true, false, false, true, false, true, true, true, false, false, false, false, false, false, false, false, false, false] l.length (fun i e H' => H' = H ∧ e = [v, fv, junk, junk, .int .i64 0, junk, v, .int .i64 l.length, .int .i64 i, junk, junk, junk, junk, junk, junk, junk, junk, junk, junk] ∧ ∀ j < i, p (l.getD j 0) = false) ?_ ?_
  · exact ⟨rfl, rfl, by omega⟩
  · rintro i e H' hi ⟨rfl, rfl, hp⟩
    refine yx ?_; (refine aops_until (by simp (disch := first|exact zz|fail) only [go_sem, hl.len, hl.idx, hl.load]; with_reducible rfl) ?_); refine yx ?_
    refine cond_p rfl (fun hlt => ?_) (fun hge => ?_)
    · refine yx ?_; (refine aops_until (by simp (disch := first|exact zz|fail) only [go_sem, hl.len, hl.idx, hl.load]; with_reducible rfl) ?_); refine yx ?_; (refine aops_until (by simp (disch := first|exact zz|fail) only [go_sem, hl.len, hl.idx, hl.load]; with_reducible rfl) ?_)
      refine aops_call_to (hf _ _) ?_
      (refine aops_until (by simp (disch := first|exact zz|fail) only [go_sem]; with_reducible rfl) ?_); refine yx ?_
      cases hq : p (l.getD i 0) with
      | true =>
        refine cond_t (by rw [← hq]; rfl) ?_
        refine yx ?_; (refine aops_until (by simp (disch := first|exact zz|fail) only [go_sem]; with_reducible rfl) ?_); refine yx ?_
        refine fin_1 ⟨⟨i, rfl, ?_⟩, rfl⟩
        rw [any_at (d := 0) (i := i) (by omega) hq]
        simp
      | false =>
        refine cond_f (by rw [← hq]; rfl) ?_
        refine yx ?_; (refine aops_until (by simp (disch := first|exact zz|fail) only [go_sem]; with_reducible rfl) ?_); refine yx ?_
        refine ⟨by omega, rfl, ?_, fun j hj => ?_⟩
        · simp [forget]
        · by_cases h : j = i
          · subst h; exact hq
          · exact hp j (by omega)
    · refine yx ?_; (refine aops_until (by simp (disch := first|exact zz|fail) only [go_sem]; with_reducible rfl) ?_); refine yx ?_
      refine fin_1 ⟨⟨-1, rfl, ?_⟩, rfl⟩
      rw [any_none (d := 0) fun j hj => hp j (by omega)]
      simp

theorem containsFunc_c {l : List Int} {v fv : Value} {p : Int → Bool} (hl : Ints H l v) (hf : Asks fv p) (hb : l.length ≤ 1000000000) :
    ACall Go.Proofs.Tryz.prog 102 [v, fv] H fun v H' => v = .bool (l.any p) ∧ H' = H := by
  (refine a102 ?_; simp only [n102, List.replicate, yq, yr, yt, yu]; first | refine q1 ?_ | refine q2 ?_ | refine q6 ?_ | refine q7 ?_ | refine qh rfl ?_ | skip)
  refine yx ?_; (refine aops_until (by simp (disch := first|exact zz|fail) only [go_sem]; with_reducible rfl) ?_); refine yx ?_; (refine aops_until (by simp (disch := first|exact zz|fail) only [go_sem]; with_reducible rfl) ?_)
  refine aops_call ((indexFunc_c hl hf hb).mono fun v1 H1 ⟨⟨i, h1, h2⟩, h3⟩ => ?_)
  subst h1; subst h3
  (refine aops_until (by simp (disch := first|exact zz|fail) only [go_sem]; with_reducible rfl) ?_); refine yx ?_
  refine fin_1 ⟨?_, rfl⟩
  simp [h2]

def sizedB (m n : Int) : Bool := decide (-m ≤ n ∧ n ≤ m)

theorem positionsErr1_c : Asks (.func (.func 103) #[] #[]) (fun n => !sizedB 1000000 n) := fun n H => by
  show ACall _ _ _ _ _
  (refine a103 ?_; simp only [n103, List.replicate, yq, yr, yt, yu]; first | refine q1 ?_ | refine q2 ?_ | refine q6 ?_ | refine q7 ?_ | refine qh rfl ?_ | skip)
  refine yx ?_; (refine aops_until (by simp (disch := first|exact zz|fail) only [go_sem]; with_reducible rfl) ?_); refine yx ?_; (refine aops_until (by simp (disch := first|exact zz|fail) only [go_sem]; with_reducible rfl) ?_)
  refine aops_call_to (isSized_c _ _ (by omega)) ?_
  (refine aops_until (by simp (disch := first|exact zz|fail) only [go_sem]; with_reducible rfl) ?_); refine yx ?_
  exact fin_1 ⟨rfl, rfl⟩

def positionsErrL (l : List Int) : Int := if 200 < l.length then 8 else if l.all (sizedB 1000000) then 0 else 2

theorem positionsErr_c {l : List Int} {v : Value} (hl : Ints H l v) (hb : l.length ≤ 1000000000) : ACall Go.Proofs.Tryz.prog 43 [v] H fun v H' => v = .int .i64 (positionsErrL l) ∧ H' = H := by
  refine ACall.drop (.int _ _) ?_
  (refine a43 ?_; simp only [n43, List.replicate, yq, yr, yt, yu]; first | refine q1 ?_ | refine q2 ?_ | refine q6 ?_ | refine q7 ?_ | refine qh rfl ?_ | skip)
  refine yx ?_; (refine aops_until (by simp (disch := first|exact zz|fail) only [go_sem]; with_reducible rfl) ?_); refine yx ?_; (refine aops_until (by simp (disch := first|exact zz|fail) only [go_sem]; with_reducible rfl) ?_)
  refine aops_call_to (containsFunc_c hl positionsErr1_c hb) ?_
  (refine aops_until (by simp (disch := first|exact zz|fail) only [go_sem]; with_reducible rfl) ?_); refine yx ?_; (refine aops_until (by simp (disch := first|exact zz|fail) only [go_sem, hl.len, hl.idx, hl.load]; with_reducible rfl) ?_)
  refine aops_call_to (unless_c _ _) ?_
  (refine aops_until (by simp (disch := first|exact zz|fail) only [go_sem]; with_reducible rfl) ?_)
  refine aops_call_to (unless_c _ _) ?_
  (refine aops_until (by simp (disch := first|exact zz|fail) only [go_sem]; with_reducible rfl) ?_)
  refine aops_call_to (first_c (l := [_, _]) (Ints.last (l := [_, _]) 2) (by simp)) ?_
  (refine aops_until (by simp (disch := first|exact zz|fail) only [go_sem]; with_reducible rfl) ?_); refine yx ?_
  refine fin_1 ⟨?_, Ext.app (Ext.refl _) _⟩
  have : (l.any fun n => !sizedB 1000000 n) = !(l.all (sizedB 1000000)) := by
    rw [← List.not_all_eq_any_not]
  simp only [firstErr, positionsErrL, this]
  by_cases h1 : 200 < l.length
  · have : ¬ ((l.length : Int) ≤ 200) := by omega
    simp [h1, this]
  · have : (l.length : Int) ≤ 200 := by omega
    cases l.all (sizedB 1000000) <;> simp [h1, this]

end
end Go.Lq

namespace Go.Lq
open Go

section
variable {H : AHeap}

theorem copyInts_c {l : List Int} {v : Value} (hl : Ints H l v) (hb : l.length ≤ 1000000000) :
    ACall Go.Proofs.Tryz.prog 8 [v] H fun v H1 => v = .slice (some ⟨H.length, 0, none⟩) l.length l.length ∧ H1 = H ++ [.cells true 1 (l.map (.int .i64))] := by
  refine ACall.tidyE (f := id) (sz := 1) (n := l.length) (vs := l.map (.int .i64)) wraps_id (closed_ints l) ?_
  (refine a8 ?_; simp only [n8, List.replicate, yq, yr, yt, yu]; first | refine q1 ?_ | refine q2 ?_ | refine q6 ?_ | refine q7 ?_ | refine qh rfl ?_ | skip)
  rcases hl with ⟨h1, h2⟩
  rcases h2 with ⟨rfl, hn⟩ | ⟨id, off, c, rfl, hc⟩
  · have : l = [] := List.length_eq_zero_iff.1 hn
    subst this
    have ha : appendA 1 8 (H ++ [.cells true 1 []]) (.slice (some ⟨H.length, 0, none⟩) 0 0) (.slice none 0 0) = some (.slice (some ⟨H.length, 0, none⟩) 0 0, H ++ [.cells true 1 []]) := rfl
    (repeat (first | refine yw ?_ | ((first | apply yd | apply ye); simp (disch := first|exact zz|fail) only [go_sem, ha]; with_reducible rfl)))
    exact fin_1 ⟨_, H.length, rfl, ⟨_, rfl⟩, rfl, Nat.le_refl _, by simp⟩
  · by_cases hn : l.length = 0
    · have : l = [] := List.length_eq_zero_iff.1 hn
      subst this
      have ha : appendA 1 8 (H ++ [.cells true 1 []]) (.slice (some ⟨H.length, 0, none⟩) 0 0) (.slice (some ⟨id, off, none⟩) ([] : List Int).length c) = some (.slice (some ⟨H.length, 0, none⟩) 0 0, H ++ [.cells true 1 []]) := rfl
      (repeat (first | refine yw ?_ | ((first | apply yd | apply ye); simp (disch := first|exact zz|fail) only [go_sem, ha]; with_reducible rfl)))
      exact fin_1 ⟨_, H.length, rfl, ⟨_, rfl⟩, rfl, Nat.le_refl _, by simp⟩
    · have ha : appendA 1 8 (H ++ [.cells true 1 []]) (.slice (some ⟨H.length, 0, none⟩) 0 0) (.slice (some ⟨id, off, none⟩) l.length c) =
          some (.slice (some ⟨(H ++ [AObj.cells true 1 []]).length, 0, none⟩) l.length l.length, (H ++ [.cells true 1 []]) ++ [.cells true 1 (l.map (.int .i64))]) := by
        obtain ⟨k, hk⟩ : ∃ k, l.length = k + 1 := ⟨l.length - 1, by omega⟩
        have hc' := cellsAt_ext ⟨[AObj.cells true 1 []], rfl⟩ (hc (by omega))
        have hr : roomOk 8 (0 + l.length) = true := roomOk_of (by omega) (by omega)
        rw [hk] at hc' hr ⊢
        simp only [appendA, hc', isAtom_ints, hr, and_self, if_true]
      (repeat (first | refine yw ?_ | ((first | apply yd | apply ye); simp (disch := first|exact zz|fail) only [go_sem, ha]; with_reducible rfl)))
      refine fin_1 ?_
      exact ⟨_, (H ++ [AObj.cells true 1 []]).length, rfl, ⟨_, List.append_assoc _ _ _⟩, rfl, by simp, by simp⟩

theorem copyInts_u {l : List Int} {v : Value} (hl : Ints H l v) (hb : l.length ≤ 1000000000) : ACall Go.Proofs.Tryz.prog 8 [v] H fun v H1 => Ints H1 l v ∧ Ext H H1 :=
  (copyInts_c hl hb).mono fun v H1 ⟨h1, h2⟩ => by subst h1; subst h2; exact ⟨Ints.last _, _, rfl⟩

theorem long_c {l : List Int} {v : Value} (hl : Ints H l v) : ACall Go.Proofs.Tryz.prog 6 [v] H fun v H' => v = .bool (decide (l.length ≤ 203)) ∧ H' = H := by
  (refine a6 ?_; simp only [n6, List.replicate, yq, yr, yt, yu]; first | refine q1 ?_ | refine q2 ?_ | refine q6 ?_ | refine q7 ?_ | refine qh rfl ?_ | skip)
  (repeat (first | refine yw ?_ | ((first | apply yd | apply ye); simp (disch := first|exact zz|fail) only [go_sem, hl.len, hl.idx, hl.load]; with_reducible rfl)))
  refine fin_1 ⟨?_, rfl⟩
  have : decide ((l.length : Int) ≤ 203) = decide (l.length ≤ 203) := by congr 1; simp; omega
  simp [this]

theorem refPositionsErr_c {l : List Int} {v : Value} (hl : Ints H l v) (hb : l.length ≤ 1000000000) : ACall Go.Proofs.Tryz.prog 13 [v] H fun v H' => v = .int .i64 (positionsErrL l) ∧ H' = H := by
  (refine a13 ?_; simp only [n13, List.replicate, yq, yr, yt, yu]; first | refine q1 ?_ | refine q2 ?_ | refine q6 ?_ | refine q7 ?_ | refine qh rfl ?_ | skip)
  (repeat (first | refine yw ?_ | ((first | apply yd | apply ye); simp (disch := first|exact zz|fail) only [go_sem, hl.len, hl.idx, hl.load]; with_reducible rfl)))
  refine cond_p rfl (fun hlt => ?_) (fun hge => ?_)
  · (refine yg ?_)
    refine fin_1 ⟨?_, rfl⟩
    have : 200 < l.length := by omega
    simp [positionsErrL, this]
  · (refine yg ?_)
    have hle : ¬ 200 < l.length := by omega
    refine awp_loop_n [true, false, false, true, false, false, false, false, false, false, false, false, false, false, false, false, false, false, false] l.length (fun i e H' => H' = H ∧ e = [v, junk, junk, .int .i64 i, junk, junk, junk, junk, junk, junk, junk, junk, junk, junk, junk, junk, junk, junk, junk] ∧ ∀ j < i, sizedB 1000000 (l.getD j 0) = true) ?_ ?_
    · exact ⟨rfl, rfl, by omega⟩
    · rintro i e H' hi ⟨rfl, rfl, hp⟩
      (repeat (first | refine yw ?_ | ((first | apply yd | apply ye); simp (disch := first|exact zz|fail) only [go_sem, hl.len, hl.idx, hl.load]; with_reducible rfl)))
      refine cond_p rfl (fun hlt => ?_) (fun hge => ?_)
      · (repeat (first | refine yw ?_ | ((first | apply yd | apply ye); simp (disch := first|exact zz|fail) only [go_sem, hl.len, hl.idx, hl.load]; with_reducible rfl)))
        refine aops_call_to (bwithin_c _ _ _) ?_
        (refine yg ?_)
        refine cond_n rfl (fun hne => ?_) (fun heq => ?_)
        · (refine yg ?_)
          refine fin_1 ⟨?_, rfl⟩
          have : l.all (sizedB 1000000) = false := all_false (d := 0) (i := i) (by omega) (by simpa [sizedB] using hne)
          simp [positionsErrL, this, hle]
        · (refine yg ?_)
          refine ⟨by omega, rfl, by simp [forget], fun j hj => ?_⟩
          by_cases h : j = i
          · subst h; simpa [sizedB] using heq
          · exact hp j (by omega)
      · (refine yg ?_)
        refine fin_1 ⟨?_, rfl⟩
        have : l.all (sizedB 1000000) = true := all_true (d := 0) fun j hj => hp j (by omega)
        simp [positionsErrL, this, hle]

theorem bints_c {a b : List Int} {va vb : Value} (ha : Ints H a va) (hb : Ints H b vb) (hl : a.length ≤ 1000000000) (_ : b.length ≤ 1000000000) : ACall Go.Proofs.Tryz.prog 12 [va, vb] H fun v H' => v = .bool (decide (a = b)) ∧ H' = H := by
  (refine a12 ?_; simp only [n12, List.replicate, yq, yr, yt, yu]; first | refine q1 ?_ | refine q2 ?_ | refine q6 ?_ | refine q7 ?_ | refine qh rfl ?_ | skip)
  (repeat (first | refine yw ?_ | ((first | apply yd | apply ye); simp (disch := first|exact zz|fail) only [go_sem, ha.len, ha.idx, ha.load, hb.len, hb.idx, hb.load]; with_reducible rfl)))
  refine cond_p rfl (fun hlt => ?_) (fun hge => ?_)
  · (refine yg ?_)
    refine fin_1 ⟨?_, rfl⟩
    have : a ≠ b := fun h => hlt (by rw [h])
    simp [this]
  · (refine yg ?_)
    have hlen : a.length = b.length := by omega
    refine awp_loop_n [true, true, false, false, false, true, false, false, false, false, false, false, false, false, false, false, false, false, false, false, false, false, false, false, false, false] a.length (fun i e H' => H' = H ∧ e = [va, vb, junk, junk, junk, .int .i64 i, junk, junk, junk, junk, junk, junk, junk, junk, junk, junk, junk, junk, junk, junk, junk, junk, junk, junk, junk, junk] ∧ ∀ j < i, a.getD j 0 = b.getD j 0) ?_ ?_
    · exact ⟨rfl, rfl, by omega⟩
    · rintro i e H' hi ⟨rfl, rfl, hp⟩
      (repeat (first | refine yw ?_ | ((first | apply yd | apply ye); simp (disch := first|exact zz|fail) only [go_sem, ha.len, ha.idx, ha.load, hb.len, hb.idx, hb.load]; with_reducible rfl)))
      refine cond_p rfl (fun hlt => ?_) (fun hge => ?_)
      · (repeat (first | refine yw ?_ | ((first | apply yd | apply ye); simp (disch := first|exact zz|fail) only [go_sem, ha.len, ha.idx, ha.load, hb.len, hb.idx, hb.load]; with_reducible rfl)))
        refine cond_p rfl (fun hne => ?_) (fun heq => ?_)
        · (refine yg ?_)
          refine fin_1 ⟨?_, rfl⟩
          have : a ≠ b := fun h => hne (by rw [h])
          simp [this]
        · (refine yg ?_)
          refine ⟨by omega, rfl, by simp [forget], fun j hj => ?_⟩
          by_cases h : j = i
          · subst h; simpa using heq
          · exact hp j (by omega)
      · (refine yg ?_)
        refine fin_1 ⟨?_, rfl⟩
        have : a = b := ext_getD (d := 0) hlen fun j hj => hp j (by omega)
        simp [this]
end
end Go.Lq

namespace Go.Lq
open Go

def Sized (m : Int) (l : List Int) : Prop := ∀ i : Nat, -m ≤ l.getD i 0 ∧ l.getD i 0 ≤ m
theorem sized_of {m : Int} (hm : 0 ≤ m) {l : List Int} (h : l.all (sizedB m) = true) : Sized m l := fun i => by
  by_cases hi : i < l.length
  · simpa [sizedB] using all_getD (d := 0) h hi
  · rw [List.getD_eq_getElem?_getD, List.getElem?_eq_none (by omega)]
    simp; omega
theorem sized_pos {l : List Int} (h : positionsErrL l = 0) : Sized 1000000 l ∧ l.length ≤ 200 := by
  unfold positionsErrL at h
  split at h
  · cases h
  · split at h
    · rename_i h1 h2; exact ⟨sized_of (by omega) h2, by omega⟩
    · cases h

section
variable {H : AHeap}

end
end Go.Lq


namespace Go.Lq
open Go
attribute [go_sem] bs_lit bs_size idxS_b sliceS_b sliceS_from sliceS_to add_b eql_b neq_b r_byteS byteS_1 eqvI_n eqvI_i neqI_n neqI_i
attribute [go_sem high] r_eqvI
attribute [go_sem] isAtom_string constOk_string fillA_str fillA_ptr isAtom_pointer constOk_ptrNil
end Go.Lq

namespace Go.Proofs
open Go.Shelf Go.Lib Go.RowKit Go.Sort
def Tryz.lays156_ren : Go.Shelf.Ren := ⟨fun | 156 => 39 | 165 => 95 | 166 => 96 | 169 => 97 | 240 => 138 | 241 => 139 | 276 => 174 | 277 => 175 | n => n, fun | 31 => 87 | 9 => 9 | 3 => 3 | 4 => 4 | 0 => 0 | 20 => 20 | 72 => 159 | 76 => 95 | 70 => 156 | 37 => 157 | 75 => 94 | 127 => 196 | 164 => 226 | 5 => 5 | 80 => 161 | n => n, fun | n => n⟩
theorem Tryz.lays156 : Go.Proofs.Lays.n156 Tryz.prog Tryz.lays156_ren := {
  mixed := by kernel_rfl
  f156 := Tryz.func39.trans (congrArg some (by kernel_rfl))
  f165 := Tryz.func95.trans (congrArg some (by kernel_rfl))
  f166 := Tryz.func96.trans (congrArg some (by kernel_rfl))
  f169 := Tryz.func97.trans (congrArg some (by kernel_rfl))
  f240 := Tryz.func138.trans (congrArg some (by kernel_rfl))
  f241 := Tryz.func139.trans (congrArg some (by kernel_rfl))
  f276 := Tryz.func174.trans (congrArg some (by kernel_rfl))
  f277 := Tryz.func175.trans (congrArg some (by kernel_rfl))
  t0 := Tryz.underlying0
  a0 := Tryz.isAgg0
  z0 := Tryz.sizeOf0
  v0 := Tryz.zeroValue0
  t3 := Tryz.underlying3
  a3 := Tryz.isAgg3
  z3 := Tryz.sizeOf3
  v3 := Tryz.zeroValue3
  t4 := Tryz.underlying4
  a4 := Tryz.isAgg4
  z4 := Tryz.sizeOf4
  v4 := Tryz.zeroValue4
  t9 := Tryz.underlying9
  a9 := Tryz.isAgg9
  z9 := Tryz.sizeOf9
  v9 := Tryz.zeroValue9
  t20 := Tryz.underlying20
  a20 := Tryz.isAgg20
  z20 := Tryz.sizeOf20
  v20 := Tryz.zeroValue20
  t31 := Tryz.underlying87
  a31 := Tryz.isAgg87
  z31 := Tryz.sizeOf87
  v31 := Tryz.zeroValue87
  t37 := Tryz.underlying157
  a37 := Tryz.isAgg157
  z37 := Tryz.sizeOf157
  v37 := Tryz.zeroValue157
  t70 := Tryz.underlying156
  a70 := Tryz.isAgg156
  z70 := Tryz.sizeOf156
  v70 := Tryz.zeroValue156
  t72 := Tryz.underlying159
  a72 := Tryz.isAgg159
  z72 := Tryz.sizeOf159
  v72 := Tryz.zeroValue159
  t75 := Tryz.underlying94
  a75 := Tryz.isAgg94
  z75 := Tryz.sizeOf94
  v75 := Tryz.zeroValue94
  t76 := Tryz.underlying95
  a76 := Tryz.isAgg95
  z76 := Tryz.sizeOf95
  v76 := Tryz.zeroValue95
  t127 := Tryz.underlying196
  a127 := Tryz.isAgg196
  z127 := Tryz.sizeOf196
  v127 := Tryz.zeroValue196
  t164 := Tryz.underlying226
  a164 := Tryz.isAgg226
  z164 := Tryz.sizeOf226
  v164 := Tryz.zeroValue226 }
theorem Tryz.Builder_Extra_156 : Builder.Extra Tryz.prog Tryz.lays156_ren := {
  sizeBuilder := by kernel_rfl
  liesBuilder := by kernel_rfl
  t5 := Tryz.underlying5
  a5 := Tryz.isAgg5
  z5 := Tryz.sizeOf5
  v5 := Tryz.zeroValue5
  infoByte := by kernel_rfl
  cellsByte := by kernel_rfl
  sizeByte := by kernel_rfl
  neB5 := by decide }
theorem Tryz.strings_Join_none (a : Option Addr) (c : Nat) (sep : ByteArray) (w : World) :
    Calls Tryz.prog 39 #[.slice a 0 c, .string sep] w fun e w' => e = .returned (.string ⟨#[]⟩) ∧ w' = w := Any.strings_Join_none Tryz.lays156 Tryz.Builder_Extra_156 a c sep w
theorem Tryz.strings_Join (bk o c : Nat) (xs : List ByteArray) (sep : ByteArray) (w : World) (hcells : ∀ (j : Nat) x, xs[j]? = some x → w.cell? ⟨bk, o + j, none⟩ = some (.string x)) (hbk : bk < w.heap.size) (hN : xs.length ≤ 140737488355328) (hcap : xs.length ≤ c) (hlen : (Lib.join (xs.map (·.data.toList)) sep.data.toList).length ≤ 140737488355328) :
    Calls Tryz.prog 39 #[.slice (some ⟨bk, o, none⟩) xs.length c, .string sep] w fun e w' => e = .returned (.string ⟨(Lib.join (xs.map (·.data.toList)) sep.data.toList).toArray⟩) ∧ Below w.heap.size w w' := Any.strings_Join Tryz.lays156 Tryz.Builder_Extra_156 bk o c xs sep w hcells hbk hN hcap hlen
def Tryz.laysM171_ren : Go.Shelf.Ren := ⟨fun | 171 => 38 | 243 => 94 | 246 => 137 | 283 => 170 | 284 => 171 | 285 => 172 | 286 => 173 | 129 => 194 | 317 => 193 | 318 => 195 | 319 => 196 | 320 => 197 | 337 => 207 | 338 => 208 | n => n, fun | 3 => 3 | 9 => 9 | 2 => 2 | 4 => 4 | 171 => 220 | 0 => 0 | 53 => 221 | 37 => 157 | 5 => 5 | 173 => 224 | 212 => 245 | 51 => 239 | 20 => 20 | 213 => 246 | 46 => 217 | 232 => 266 | 233 => 267 | n => n, fun | 17 => 6 | 18 => 11 | 19 => 12 | n => n⟩
theorem Tryz.laysM171 : Go.Proofs.LaysM.n171 Tryz.prog Tryz.laysM171_ren := {
  mixed := by kernel_rfl
  f129 := Tryz.func194.trans (congrArg some (by kernel_rfl))
  f171 := Tryz.func38.trans (congrArg some (by kernel_rfl))
  f243 := Tryz.func94.trans (congrArg some (by kernel_rfl))
  f246 := Tryz.func137.trans (congrArg some (by kernel_rfl))
  f283 := Tryz.func170.trans (congrArg some (by kernel_rfl))
  f284 := Tryz.func171.trans (congrArg some (by kernel_rfl))
  f285 := Tryz.func172.trans (congrArg some (by kernel_rfl))
  f286 := Tryz.func173.trans (congrArg some (by kernel_rfl))
  f317 := Tryz.func193.trans (congrArg some (by kernel_rfl))
  f318 := Tryz.func195.trans (congrArg some (by kernel_rfl))
  f319 := Tryz.func196.trans (congrArg some (by kernel_rfl))
  f320 := Tryz.func197.trans (congrArg some (by kernel_rfl))
  f337 := Tryz.func207.trans (congrArg some (by kernel_rfl))
  f338 := Tryz.func208.trans (congrArg some (by kernel_rfl))
  t0 := Tryz.underlying0
  a0 := Tryz.isAgg0
  z0 := Tryz.sizeOf0
  v0 := Tryz.zeroValue0
  t2 := Tryz.underlying2
  a2 := Tryz.isAgg2
  z2 := Tryz.sizeOf2
  v2 := Tryz.zeroValue2
  t3 := Tryz.underlying3
  a3 := Tryz.isAgg3
  z3 := Tryz.sizeOf3
  v3 := Tryz.zeroValue3
  t4 := Tryz.underlying4
  a4 := Tryz.isAgg4
  z4 := Tryz.sizeOf4
  v4 := Tryz.zeroValue4
  t5 := Tryz.underlying5
  a5 := Tryz.isAgg5
  z5 := Tryz.sizeOf5
  v5 := Tryz.zeroValue5
  t9 := Tryz.underlying9
  a9 := Tryz.isAgg9
  z9 := Tryz.sizeOf9
  v9 := Tryz.zeroValue9
  t20 := Tryz.underlying20
  a20 := Tryz.isAgg20
  z20 := Tryz.sizeOf20
  v20 := Tryz.zeroValue20
  t37 := Tryz.underlying157
  a37 := Tryz.isAgg157
  z37 := Tryz.sizeOf157
  v37 := Tryz.zeroValue157
  t46 := Tryz.underlying217
  a46 := Tryz.isAgg217
  z46 := Tryz.sizeOf217
  v46 := Tryz.zeroValue217
  t51 := Tryz.underlying239
  a51 := Tryz.isAgg239
  z51 := Tryz.sizeOf239
  v51 := Tryz.zeroValue239
  t53 := Tryz.underlying221
  a53 := Tryz.isAgg221
  z53 := Tryz.sizeOf221
  v53 := Tryz.zeroValue221
  t171 := Tryz.underlying220
  a171 := Tryz.isAgg220
  z171 := Tryz.sizeOf220
  v171 := Tryz.zeroValue220
  t173 := Tryz.underlying224
  a173 := Tryz.isAgg224
  z173 := Tryz.sizeOf224
  v173 := Tryz.zeroValue224
  t212 := Tryz.underlying245
  a212 := Tryz.isAgg245
  z212 := Tryz.sizeOf245
  v212 := Tryz.zeroValue245
  t213 := Tryz.underlying246
  a213 := Tryz.isAgg246
  z213 := Tryz.sizeOf246
  t232 := Tryz.underlying266
  a232 := Tryz.isAgg266
  z232 := Tryz.sizeOf266
  v232 := Tryz.zeroValue266
  t233 := Tryz.underlying267
  a233 := Tryz.isAgg267
  z233 := Tryz.sizeOf267
  v233 := Tryz.zeroValue267
  g17 := by kernel_rfl
  g18 := by kernel_rfl
  g19 := by kernel_rfl
  i0 := by kernel_rfl
  i2 := by kernel_rfl
  i3 := by kernel_rfl
  i4 := by kernel_rfl
  i5 := by kernel_rfl
  i9 := by kernel_rfl
  i20 := by kernel_rfl
  i37 := by kernel_rfl
  i46 := by kernel_rfl
  i51 := by kernel_rfl
  i53 := by kernel_rfl
  i171 := by kernel_rfl
  i173 := by kernel_rfl
  i212 := by kernel_rfl
  i232 := by kernel_rfl
  i233 := by kernel_rfl
  m17 := by kernel_rfl
  m18 := by kernel_rfl
  m19 := by kernel_rfl }
theorem Tryz.strconv_Itoa (n : Int) (h0 : -9223372036854775808 ≤ n) (h1 : n ≤ 9223372036854775807) (w : World) (htab : Lib.TabIs Tryz.prog w "internal/strconv.uint64pow10" .u64 Lib.pow10Tab) :
    Calls Tryz.prog 38 #[.int .i64 n] w fun e w' => e = .returned (.string ⟨(Lib.itoa n).toArray⟩) ∧ ∃ k os, w' = grow (w.drewN k) os := Any.strconv_Itoa Tryz.laysM171 n h0 h1 w htab
def Tryz.laysC172_ren : Go.Shelf.Ren := ⟨fun | 172 => 41 | 244 => 99 | 245 => 100 | 247 => 143 | 279 => 144 | 280 => 145 | 281 => 146 | 282 => 147 | 287 => 177 | 316 => 178 | 171 => 38 | 205 => 179 | 321 => 198 | 322 => 199 | 243 => 94 | 246 => 137 | 283 => 170 | 284 => 171 | 285 => 172 | 286 => 173 | 129 => 194 | 317 => 193 | 318 => 195 | 319 => 196 | 320 => 197 | 337 => 207 | 338 => 208 | n => n, fun | 9 => 9 | 3 => 3 | 75 => 94 | 76 => 95 | 4 => 4 | 5 => 5 | 167 => 201 | 37 => 157 | 0 => 0 | 85 => 202 | 2 => 2 | 168 => 204 | 53 => 221 | 175 => 229 | 46 => 217 | 210 => 233 | 127 => 196 | 145 => 255 | 143 => 253 | 21 => 21 | 171 => 220 | 173 => 224 | 212 => 245 | 51 => 239 | 20 => 20 | 213 => 246 | 232 => 266 | 233 => 267 | 80 => 161 | n => n, fun | 15 => 3 | 16 => 4 | 17 => 6 | 18 => 11 | 19 => 12 | n => n⟩
theorem Tryz.laysC172 : Go.Proofs.LaysC.n172 Tryz.prog Tryz.laysC172_ren := {
  mixed := by kernel_rfl
  f129 := Tryz.func194.trans (congrArg some (by kernel_rfl))
  f171 := Tryz.func38.trans (congrArg some (by kernel_rfl))
  f172 := Tryz.func41.trans (congrArg some (by kernel_rfl))
  f205 := Tryz.func179.trans (congrArg some (by kernel_rfl))
  f243 := Tryz.func94.trans (congrArg some (by kernel_rfl))
  f244 := Tryz.func99.trans (congrArg some (by kernel_rfl))
  f245 := Tryz.func100.trans (congrArg some (by kernel_rfl))
  f246 := Tryz.func137.trans (congrArg some (by kernel_rfl))
  f247 := Tryz.func143.trans (congrArg some (by kernel_rfl))
  f279 := Tryz.func144.trans (congrArg some (by kernel_rfl))
  f280 := Tryz.func145.trans (congrArg some (by kernel_rfl))
  f281 := Tryz.func146.trans (congrArg some (by kernel_rfl))
  f282 := Tryz.func147.trans (congrArg some (by kernel_rfl))
  f283 := Tryz.func170.trans (congrArg some (by kernel_rfl))
  f284 := Tryz.func171.trans (congrArg some (by kernel_rfl))
  f285 := Tryz.func172.trans (congrArg some (by kernel_rfl))
  f286 := Tryz.func173.trans (congrArg some (by kernel_rfl))
  f287 := Tryz.func177.trans (congrArg some (by kernel_rfl))
  f316 := Tryz.func178.trans (congrArg some (by kernel_rfl))
  f317 := Tryz.func193.trans (congrArg some (by kernel_rfl))
  f318 := Tryz.func195.trans (congrArg some (by kernel_rfl))
  f319 := Tryz.func196.trans (congrArg some (by kernel_rfl))
  f320 := Tryz.func197.trans (congrArg some (by kernel_rfl))
  f321 := Tryz.func198.trans (congrArg some (by kernel_rfl))
  f322 := Tryz.func199.trans (congrArg some (by kernel_rfl))
  f337 := Tryz.func207.trans (congrArg some (by kernel_rfl))
  f338 := Tryz.func208.trans (congrArg some (by kernel_rfl))
  t0 := Tryz.underlying0
  a0 := Tryz.isAgg0
  z0 := Tryz.sizeOf0
  v0 := Tryz.zeroValue0
  t2 := Tryz.underlying2
  a2 := Tryz.isAgg2
  z2 := Tryz.sizeOf2
  v2 := Tryz.zeroValue2
  t3 := Tryz.underlying3
  a3 := Tryz.isAgg3
  z3 := Tryz.sizeOf3
  v3 := Tryz.zeroValue3
  t4 := Tryz.underlying4
  a4 := Tryz.isAgg4
  z4 := Tryz.sizeOf4
  v4 := Tryz.zeroValue4
  t5 := Tryz.underlying5
  a5 := Tryz.isAgg5
  z5 := Tryz.sizeOf5
  v5 := Tryz.zeroValue5
  t9 := Tryz.underlying9
  a9 := Tryz.isAgg9
  z9 := Tryz.sizeOf9
  v9 := Tryz.zeroValue9
  t20 := Tryz.underlying20
  a20 := Tryz.isAgg20
  z20 := Tryz.sizeOf20
  v20 := Tryz.zeroValue20
  t21 := Tryz.underlying21
  a21 := Tryz.isAgg21
  z21 := Tryz.sizeOf21
  v21 := Tryz.zeroValue21
  t37 := Tryz.underlying157
  a37 := Tryz.isAgg157
  z37 := Tryz.sizeOf157
  v37 := Tryz.zeroValue157
  t46 := Tryz.underlying217
  a46 := Tryz.isAgg217
  z46 := Tryz.sizeOf217
  v46 := Tryz.zeroValue217
  t51 := Tryz.underlying239
  a51 := Tryz.isAgg239
  z51 := Tryz.sizeOf239
  v51 := Tryz.zeroValue239
  t53 := Tryz.underlying221
  a53 := Tryz.isAgg221
  z53 := Tryz.sizeOf221
  v53 := Tryz.zeroValue221
  t75 := Tryz.underlying94
  a75 := Tryz.isAgg94
  z75 := Tryz.sizeOf94
  v75 := Tryz.zeroValue94
  t76 := Tryz.underlying95
  a76 := Tryz.isAgg95
  z76 := Tryz.sizeOf95
  v76 := Tryz.zeroValue95
  t85 := Tryz.underlying202
  a85 := Tryz.isAgg202
  z85 := Tryz.sizeOf202
  v85 := Tryz.zeroValue202
  t127 := Tryz.underlying196
  a127 := Tryz.isAgg196
  z127 := Tryz.sizeOf196
  v127 := Tryz.zeroValue196
  t143 := Tryz.underlying253
  a143 := Tryz.isAgg253
  z143 := Tryz.sizeOf253
  v143 := Tryz.zeroValue253
  t145 := Tryz.underlying255
  a145 := Tryz.isAgg255
  z145 := Tryz.sizeOf255
  v145 := Tryz.zeroValue255
  t167 := Tryz.underlying201
  a167 := Tryz.isAgg201
  z167 := Tryz.sizeOf201
  v167 := Tryz.zeroValue201
  t168 := Tryz.underlying204
  a168 := Tryz.isAgg204
  z168 := Tryz.sizeOf204
  v168 := Tryz.zeroValue204
  t171 := Tryz.underlying220
  a171 := Tryz.isAgg220
  z171 := Tryz.sizeOf220
  v171 := Tryz.zeroValue220
  t173 := Tryz.underlying224
  a173 := Tryz.isAgg224
  z173 := Tryz.sizeOf224
  v173 := Tryz.zeroValue224
  t175 := Tryz.underlying229
  a175 := Tryz.isAgg229
  z175 := Tryz.sizeOf229
  v175 := Tryz.zeroValue229
  t210 := Tryz.underlying233
  a210 := Tryz.isAgg233
  z210 := Tryz.sizeOf233
  v210 := Tryz.zeroValue233
  t212 := Tryz.underlying245
  a212 := Tryz.isAgg245
  z212 := Tryz.sizeOf245
  v212 := Tryz.zeroValue245
  t213 := Tryz.underlying246
  a213 := Tryz.isAgg246
  z213 := Tryz.sizeOf246
  t232 := Tryz.underlying266
  a232 := Tryz.isAgg266
  z232 := Tryz.sizeOf266
  v232 := Tryz.zeroValue266
  t233 := Tryz.underlying267
  a233 := Tryz.isAgg267
  z233 := Tryz.sizeOf267
  v233 := Tryz.zeroValue267
  g15 := by kernel_rfl
  g16 := by kernel_rfl
  g17 := by kernel_rfl
  g18 := by kernel_rfl
  g19 := by kernel_rfl
  t80 := Tryz.underlying161
  a80 := Tryz.isAgg161
  z80 := Tryz.sizeOf161
  v80 := Tryz.zeroValue161
  i0 := by kernel_rfl
  i2 := by kernel_rfl
  i3 := by kernel_rfl
  i4 := by kernel_rfl
  i5 := by kernel_rfl
  i9 := by kernel_rfl
  i20 := by kernel_rfl
  i21 := by kernel_rfl
  i37 := by kernel_rfl
  i46 := by kernel_rfl
  i51 := by kernel_rfl
  i53 := by kernel_rfl
  i75 := by kernel_rfl
  i76 := by kernel_rfl
  i80 := by kernel_rfl
  i85 := by kernel_rfl
  i127 := by kernel_rfl
  i143 := by kernel_rfl
  i145 := by kernel_rfl
  i167 := by kernel_rfl
  i168 := by kernel_rfl
  i171 := by kernel_rfl
  i173 := by kernel_rfl
  i175 := by kernel_rfl
  i210 := by kernel_rfl
  i212 := by kernel_rfl
  i232 := by kernel_rfl
  i233 := by kernel_rfl
  m15 := by kernel_rfl
  m16 := by kernel_rfl
  m17 := by kernel_rfl
  m18 := by kernel_rfl
  m19 := by kernel_rfl
  c0 := by kernel_rfl
  c2 := by kernel_rfl
  c3 := by kernel_rfl
  c4 := by kernel_rfl
  c5 := by kernel_rfl
  c9 := by kernel_rfl
  c20 := by kernel_rfl
  c21 := by kernel_rfl
  c37 := by kernel_rfl
  c46 := by kernel_rfl
  c51 := by kernel_rfl
  c53 := by kernel_rfl
  c75 := by kernel_rfl
  c76 := by kernel_rfl
  c80 := by kernel_rfl
  c85 := by kernel_rfl
  c127 := by kernel_rfl
  c143 := by kernel_rfl
  c145 := by kernel_rfl
  c167 := by kernel_rfl
  c168 := by kernel_rfl
  c171 := by kernel_rfl
  c173 := by kernel_rfl
  c175 := by kernel_rfl
  c210 := by kernel_rfl
  c212 := by kernel_rfl
  c213 := by kernel_rfl
  c232 := by kernel_rfl
  c233 := by kernel_rfl }
theorem Tryz.strconv_Atoi_ok (s : ByteArray) (hmax : s.size ≤ 9223372036854775806) (v : Int) (h : Lib.atoiAll s.data.toList = .ok v) (w : World) :
    Calls Tryz.prog 41 #[.string s] w fun e w' => e = .returned (.tuple #[.int .i64 v, .nilIface]) ∧ (w' = w ∨ ∃ t, w' = Lib.bytesWorld w 5 t) := Any.strconv_Atoi_ok Tryz.laysC172 s hmax v h w
theorem Tryz.strconv_Atoi_syntax (s : ByteArray) (hlim : s.size ≤ 281474976710656) (h : Lib.atoiAll s.data.toList = Lib.atoiAll []) (ev : Value) (w : World) (hv : w.cell? ⟨3, 0, none⟩ = some ev) (hev : ev = .nilIface ∨ ∃ te pe, ev = .iface te pe) :
    Calls Tryz.prog 41 #[.string s] w fun e w' => ∃ N, e = .returned (.tuple #[.int .i64 (0), .iface 204 (.pointer (some ⟨N, 0, none⟩))]) ∧ w.heap.size ≤ N ∧ w'.heap[N]? = some (.cells #[.string ⟨#[65, 116, 111, 105]⟩, .string s, ev] 233 (0, 0)) ∧ Below w.heap.size w w' := Any.strconv_Atoi_syntax Tryz.laysC172 s hlim h ev w hv hev
theorem Tryz.strconv_Atoi_range (s : ByteArray) (hlim : s.size ≤ 281474976710656) (h : Lib.atoiAll s.data.toList = .range) (ev : Value) (w : World) (hv : w.cell? ⟨4, 0, none⟩ = some ev) (hev : ev = .nilIface ∨ ∃ te pe, ev = .iface te pe) :
    Calls Tryz.prog 41 #[.string s] w fun e w' => ∃ N, e = .returned (.tuple #[.int .i64 (Lib.atoiSat s.data.toList), .iface 204 (.pointer (some ⟨N, 0, none⟩))]) ∧ w.heap.size ≤ N ∧ w'.heap[N]? = some (.cells #[.string ⟨#[65, 116, 111, 105]⟩, .string s, ev] 233 (0, 0)) ∧ Below w.heap.size w w' := Any.strconv_Atoi_range Tryz.laysC172 s hlim h ev w hv hev
def Tryz.lays143_ren : Go.Shelf.Ren := ⟨fun | 143 => 142 | 219 => 155 | 217 => 183 | 225 => 184 | 224 => 185 | 267 => 186 | 266 => 205 | 314 => 206 | n => n, fun | 9 => 9 | 3 => 3 | 4 => 4 | 5 => 5 | 46 => 217 | 146 => 240 | 51 => 239 | n => n, fun | 1 => 5 | n => n⟩
theorem Tryz.lays143 : Go.Proofs.Lays.n143 Tryz.prog Tryz.lays143_ren := {
  mixed := by kernel_rfl
  f143 := Tryz.func142.trans (congrArg some (by kernel_rfl))
  f217 := Tryz.func183.trans (congrArg some (by kernel_rfl))
  f219 := Tryz.func155.trans (congrArg some (by kernel_rfl))
  f224 := Tryz.func185.trans (congrArg some (by kernel_rfl))
  f225 := Tryz.func184.trans (congrArg some (by kernel_rfl))
  f266 := Tryz.func205.trans (congrArg some (by kernel_rfl))
  f267 := Tryz.func186.trans (congrArg some (by kernel_rfl))
  f314 := Tryz.func206.trans (congrArg some (by kernel_rfl))
  t3 := Tryz.underlying3
  a3 := Tryz.isAgg3
  z3 := Tryz.sizeOf3
  v3 := Tryz.zeroValue3
  t4 := Tryz.underlying4
  a4 := Tryz.isAgg4
  z4 := Tryz.sizeOf4
  v4 := Tryz.zeroValue4
  t5 := Tryz.underlying5
  a5 := Tryz.isAgg5
  z5 := Tryz.sizeOf5
  v5 := Tryz.zeroValue5
  t9 := Tryz.underlying9
  a9 := Tryz.isAgg9
  z9 := Tryz.sizeOf9
  v9 := Tryz.zeroValue9
  t46 := Tryz.underlying217
  a46 := Tryz.isAgg217
  z46 := Tryz.sizeOf217
  v46 := Tryz.zeroValue217
  t51 := Tryz.underlying239
  a51 := Tryz.isAgg239
  z51 := Tryz.sizeOf239
  v51 := Tryz.zeroValue239
  t146 := Tryz.underlying240
  a146 := Tryz.isAgg240
  z146 := Tryz.sizeOf240
  v146 := Tryz.zeroValue240
  g1 := by kernel_rfl }
theorem Tryz.strings_Index (s sub : ByteArray) (m : Int) (w : World) (hs : s.size < 4294967281) (hm : w.cell? ⟨5, 0, none⟩ = some (.int .i64 m)) :
    Calls Tryz.prog 142 #[.string s, .string sub] w fun e w' => e = .returned (.int .i64 (Lib.index s.data.toList sub.data.toList)) ∧ w' = w := Any.strings_Index Tryz.lays143 s sub m w hs hm
def Tryz.lays101_ren : Go.Shelf.Ren := ⟨fun | 101 => 42 | 208 => 101 | 206 => 148 | n => n, fun | 9 => 9 | 4 => 4 | 3 => 3 | n => n, fun | n => n⟩
theorem Tryz.lays101 : Go.Proofs.Lays.n101 Tryz.prog Tryz.lays101_ren := {
  mixed := by kernel_rfl
  f101 := Tryz.func42.trans (congrArg some (by kernel_rfl))
  f206 := Tryz.func148.trans (congrArg some (by kernel_rfl))
  f208 := Tryz.func101.trans (congrArg some (by kernel_rfl))
  t3 := Tryz.underlying3
  a3 := Tryz.isAgg3
  z3 := Tryz.sizeOf3
  v3 := Tryz.zeroValue3
  t4 := Tryz.underlying4
  a4 := Tryz.isAgg4
  z4 := Tryz.sizeOf4
  v4 := Tryz.zeroValue4
  t9 := Tryz.underlying9
  a9 := Tryz.isAgg9
  z9 := Tryz.sizeOf9
  v9 := Tryz.zeroValue9 }
theorem Tryz.strings_TrimPrefix (s p : ByteArray) (w : World) :
    Calls Tryz.prog 42 #[.string s, .string p] w fun e w' => e = .returned (.string ⟨(Lib.trimPrefix s.data.toList p.data.toList).toArray⟩) ∧ w' = w := Any.strings_TrimPrefix Tryz.lays101 s p w
end Go.Proofs

namespace Go.Lq
open Go
open Go.Proofs

def tabRow : Array Value := (Lib.pow10Tab.map fun z => Value.int .u64 z).toArray
structure StrH (H : AHeap) : Prop where
  max : ∃ m, H[5]? = some (.cells false 1 [.int .i64 m])
  tab : H[6]? = some (.row tabRow)
  syn : ∃ t, H[3]? = some (.cells false 1 [.iface t junk])
  rng : ∃ t, H[4]? = some (.cells false 1 [.iface t junk])
theorem ext_at {H H' : AHeap} (hx : Ext H H') {i : Nat} {c : AObj} (h : H[i]? = some c) : H'[i]? = some c := by rw [hx.get (List.getElem?_eq_some_iff.1 h).1]; exact h
theorem StrH.ext {H H' : AHeap} (h : StrH H) (hx : Ext H H') : StrH H' := by
  obtain ⟨m, h1⟩ := h.max
  obtain ⟨t, h2⟩ := h.syn
  obtain ⟨u, h3⟩ := h.rng
  exact ⟨⟨m, ext_at hx h1⟩, ext_at hx h.tab, ⟨t, ext_at hx h2⟩, ⟨u, ext_at hx h3⟩⟩

section
variable {H : AHeap} {base : Nat} {β : Beta} {w : World}
theorem gTab : Go.Proofs.Tryz.prog.globalNamed "internal/strconv.uint64pow10" = some 6 := by kernel_rfl
theorem gSize : Go.Proofs.Tryz.prog.globals.size = 13 := by kernel_rfl
theorem Inj.glob_cell (hi : Inj Go.Proofs.Tryz.prog β H base w) {g : Nat} (hg : g < 13) {v : Value} (h : H[g]? = some (.cells false 1 [v])) : ∃ cv, w.cell? ⟨g, 0, none⟩ = some cv ∧ VR β v cv := by
  obtain ⟨r, hr⟩ := hi.glob g (by rw [gSize]; exact hg)
  have := cell_rel (k := 0) (v := v) hi hr (by unfold cellAt; rw [h]; rfl)
  simpa using this
theorem StrH.maxLen (hs : StrH H) (hi : Inj Go.Proofs.Tryz.prog β H base w) : ∃ m, w.cell? ⟨5, 0, none⟩ = some (.int .i64 m) := by
  obtain ⟨m, h⟩ := hs.max
  obtain ⟨cv, h1, h2⟩ := hi.glob_cell (by decide) h
  exact ⟨m, by rw [h1, h2.num]⟩
theorem StrH.errCell (hs : StrH H) (hi : Inj Go.Proofs.Tryz.prog β H base w) {g : Nat} (hg : g = 3 ∨ g = 4) : ∃ te pe, w.cell? ⟨g, 0, none⟩ = some (.iface te pe) := by
  rcases hg with rfl | rfl
  · obtain ⟨t, h⟩ := hs.syn
    obtain ⟨cv, h1, h2⟩ := hi.glob_cell (by decide) h
    obtain ⟨v', rfl⟩ := h2.iface_inv
    exact ⟨t, v', h1⟩
  · obtain ⟨t, h⟩ := hs.rng
    obtain ⟨cv, h1, h2⟩ := hi.glob_cell (by decide) h
    obtain ⟨v', rfl⟩ := h2.iface_inv
    exact ⟨t, v', h1⟩
theorem StrH.tabIs (hs : StrH H) (hi : Inj Go.Proofs.Tryz.prog β H base w) : Lib.TabIs Go.Proofs.Tryz.prog w "internal/strconv.uint64pow10" .u64 Lib.pow10Tab := by
  obtain ⟨r, hr⟩ := hi.glob 6 (by rw [gSize]; decide)
  have ho := hi.obj 6 _ hr
  rw [hs.tab] at ho
  obtain ⟨t, fz, h⟩ := ho
  unfold Lib.TabIs World.var?
  rw [gTab]
  simp only [Option.bind_some, h]
  rfl
theorem cargs1 {v : Value} {cargs : Array Value} (h : cargs.toList = [v]) : cargs = #[v] := by rw [← Array.toArray_toList (xs := cargs), h]
theorem cargs2 {v u : Value} {cargs : Array Value} (h : cargs.toList = [v, u]) : cargs = #[v, u] := by rw [← Array.toArray_toList (xs := cargs), h]
theorem bs_mk (l : List UInt8) : (⟨l.toArray⟩ : ByteArray) = bs l := rfl

theorem itoa_c (hs : StrH H) {n : Int} (h0 : -9223372036854775808 ≤ n) (h1 : n ≤ 9223372036854775807) : ACall Go.Proofs.Tryz.prog 38 [.int .i64 n] H fun v H' => v = .string (bs (Lib.itoa n)) ∧ H' = H := by
  refine ACall.of_calls ⟨_, Go.Proofs.Tryz.func38, by kernel_rfl, by kernel_rfl⟩ fun base β w cargs hi hv => ?_
  obtain ⟨y, e, h⟩ := VRs.one hv
  obtain rfl := h.num
  rw [cargs1 e]
  refine (Go.Proofs.Tryz.strconv_Itoa n h0 h1 w (hs.tabIs hi)).mono fun e' w' ⟨he, k, os, hw⟩ => ?_
  subst hw
  exact ⟨_, _, he, .string _, ⟨rfl, rfl⟩, Lib.below_grow _ _ (Nat.le_refl _) _ _⟩

theorem VR.pair {β : Beta} {a b c d : Value} (h1 : VR β a c) (h2 : VR β b d) : VR β (.tuple #[a, b]) (.tuple #[c, d]) := .tuple rfl fun i v v' e1 e2 => by
  match i with
  | 0 => simp at e1 e2; subst e1; subst e2; exact h1
  | 1 => simp at e1 e2; subst e1; subst e2; exact h2
  | i + 2 => simp at e1
def AtoiRes (l : List UInt8) (v : Value) : Prop := (∃ n, Lib.atoiAll l = .ok n ∧ v = .tuple #[.int .i64 n, .nilIface]) ∨ ((∀ n, Lib.atoiAll l ≠ .ok n) ∧ ∃ n t, v = .tuple #[.int .i64 n, .iface t junk])
theorem atoi_c (hs : StrH H) {l : List UInt8} (hl : l.length ≤ 281474976710656) : ACall Go.Proofs.Tryz.prog 41 [.string (bs l)] H fun v H' => AtoiRes l v ∧ H' = H := by
  refine ACall.of_calls ⟨_, Go.Proofs.Tryz.func41, by kernel_rfl, by kernel_rfl⟩ fun base β w cargs hi hv => ?_
  obtain ⟨y, e, h⟩ := VRs.one hv
  obtain rfl := h.str
  rw [cargs1 e]
  have hsz : (bs l).size ≤ 281474976710656 := by rw [bs_size]; exact hl
  cases hr : Lib.atoiAll l
  · rename_i n
    refine (Go.Proofs.Tryz.strconv_Atoi_ok (bs l) (by omega) n (by rw [bs_data]; exact hr) w).mono fun e' w' ⟨he, hw⟩ => ?_
    refine ⟨_, .tuple #[.int .i64 n, .nilIface], he, VR.pair (.int _ _) .nilIface, ⟨.inl ⟨n, hr, rfl⟩, rfl⟩, ?_⟩
    rcases hw with rfl | ⟨t, rfl⟩
    · exact RowKit.Below.refl _ _
    · exact Lib.bytesWorld_below _ _ _
  · obtain ⟨te, pe, hc⟩ := hs.errCell hi (.inl rfl)
    refine (Go.Proofs.Tryz.strconv_Atoi_syntax (bs l) hsz (by rw [bs_data]; exact hr) _ w hc (.inr ⟨te, pe, rfl⟩)).mono fun e' w' ⟨N, he, _, _, hb⟩ => ?_
    exact ⟨_, .tuple #[.int .i64 0, .iface _ junk], he, VR.pair (.int _ _) (.iface _ (.junk _)), ⟨.inr ⟨fun n h => (by rw [hr] at h; cases h), _, _, rfl⟩, rfl⟩, hb⟩
  · obtain ⟨te, pe, hc⟩ := hs.errCell hi (.inr rfl)
    refine (Go.Proofs.Tryz.strconv_Atoi_range (bs l) hsz (by rw [bs_data]; exact hr) _ w hc (.inr ⟨te, pe, rfl⟩)).mono fun e' w' ⟨N, he, _, _, hb⟩ => ?_
    exact ⟨_, .tuple #[.int .i64 _, .iface _ junk], he, VR.pair (.int _ _) (.iface _ (.junk _)), ⟨.inr ⟨fun n h => (by rw [hr] at h; cases h), _, _, rfl⟩, rfl⟩, hb⟩

theorem index_c (hs : StrH H) {l m : List UInt8} (hl : l.length ≤ 281474976) : ACall Go.Proofs.Tryz.prog 142 [.string (bs l), .string (bs m)] H fun v H' => v = .int .i64 (Lib.index l m) ∧ H' = H := by
  refine ACall.of_calls ⟨_, Go.Proofs.Tryz.func142, by kernel_rfl, by kernel_rfl⟩ fun base β w cargs hi hv => ?_
  obtain ⟨y, y', e, h, h'⟩ := VRs.two hv
  obtain rfl := h.str
  obtain rfl := h'.str
  rw [cargs2 e]
  obtain ⟨k, hm⟩ := hs.maxLen hi
  refine (Go.Proofs.Tryz.strings_Index (bs l) (bs m) k w (by rw [bs_size]; omega) hm).mono fun e' w' ⟨he, hw⟩ => ?_
  subst hw
  simp only [bs_data] at he
  exact ⟨_, _, he, .int _ _, ⟨rfl, rfl⟩, RowKit.Below.refl _ _⟩

theorem join_c {ll : List (List UInt8)} {m : List UInt8} {v : Value} (ht : Txts H ll v) (hn : ll.length ≤ 1000000) (hl : (Lib.join ll m).length ≤ 140737488355328) : ACall Go.Proofs.Tryz.prog 39 [v, .string (bs m)] H fun v' H' =>
    v' = .string (bs (Lib.join ll m)) ∧ H' = H := by
  refine ACall.of_calls ⟨_, Go.Proofs.Tryz.func39, by kernel_rfl, by kernel_rfl⟩ fun base β w cargs hi hv => ?_
  obtain ⟨y, y', e, h, h'⟩ := VRs.two hv
  obtain rfl := h'.str
  rw [cargs2 e]
  by_cases h0 : ll.length = 0
  · obtain rfl := List.length_eq_zero_iff.1 h0
    have : ∃ a c, y = .slice a 0 c := by
      rcases ht.2 with ⟨rfl, _⟩ | ⟨id, off, c, rfl, _⟩
      · exact ⟨_, _, h.nilS⟩
      · cases h with | slice hc h0 ha => exact ⟨_, _, rfl⟩
    obtain ⟨a, c, rfl⟩ := this
    refine (Go.Proofs.Tryz.strings_Join_none a c (bs m) w).mono fun e' w' ⟨he, hw⟩ => ?_
    subst hw
    exact ⟨_, _, he, .string _, ⟨rfl, rfl⟩, RowKit.Below.refl _ _⟩
  obtain ⟨id, off, c, rfl, _⟩ := ht.cell (k := 0) (by omega)
  obtain ⟨a, cap, rfl, hcap, hcc, ha⟩ := h.slice_inv
  obtain ⟨p, hp, rfl, _⟩ := ha (.inl (by omega))
  have hcells : ∀ (j : Nat) x, (ll.map bs)[j]? = some x → w.cell? ⟨p.b, p.o + off + j, none⟩ = some (.string x) := fun j x hx => by
    have hj : j < ll.length := by simpa using (List.getElem?_eq_some_iff.1 hx).1
    obtain ⟨id', off', c', e', hc⟩ := ht.cell hj
    cases e'
    obtain ⟨cv, h1, h2⟩ := cell_rel hi hp hc
    obtain rfl := h2.str
    rw [Nat.add_assoc, h1]
    simp [hj] at hx
    rw [← hx]
    simp [hj]
  have hmap : (ll.map bs).map (fun b => b.data.toList) = ll := by
    rw [List.map_map]
    exact (List.map_congr_left fun l _ => bs_data l).trans (List.map_id ll)
  have := Go.Proofs.Tryz.strings_Join p.b (p.o + off) cap (ll.map bs) (bs m) w hcells (hi.lt _ _ hp) (by simp; omega) (by simpa using hcap) (by rw [hmap, bs_data]; exact hl)
  rw [hmap, bs_data, List.length_map] at this
  refine this.mono fun e' w' ⟨he, hb⟩ => ?_
  exact ⟨_, _, he, .string _, ⟨rfl, rfl⟩, hb⟩
end
end Go.Lq

namespace Go.Lq
open Go

def tabA : List (Nat × RFunc) :=
  [(5, R5), (12, R12), (31, R31), (32, R32), (33, R33), (34, R34), (35, R35), (36, R36), (37, R37), (43, R43), (74, R74), (75, R75), (76, R76), (77, R77), (78, R78), (79, R79), (80, R80), (81, R81), (82, R82), (83, R83), (84, R84), (85, R85), (86, R86), (87, R87), (88, R88), (89, R89), (90, R90), (91, R91), (92, R92), (93, R93), (102, R102), (103, R103), (128, R128), (129, R129), (130, R130), (131, R131), (132, R132), (133, R133), (134, R134), (135, R135), (136, R136), (149, R149), (164, R164), (165, R165), (166, R166), (167, R167), (168, R168), (169, R169), (190, R190), (191, R191), (192, R192)]

def TA (f : Nat) : Option RFunc := (tabA.find? (fun p => p.1 == f)).map (·.2)

theorem soundTA : SoundT Go.Proofs.Tryz.prog TA := by
  intro f rf h
  have key : ∀ p ∈ tabA, ∃ fn, Go.Proofs.Tryz.prog.funcs[p.1]? = some fn ∧ compileFn Go.Proofs.Tryz.prog fn = some p.2 := by
    unfold tabA
    refine List.forall_mem_cons.2 ⟨⟨_, Go.Proofs.Tryz.func5, c5⟩, List.forall_mem_cons.2 ⟨⟨_, Go.Proofs.Tryz.func12, c12⟩, List.forall_mem_cons.2 ⟨⟨_, Go.Proofs.Tryz.func31, c31⟩, List.forall_mem_cons.2 ⟨⟨_, Go.Proofs.Tryz.func32, c32⟩, List.forall_mem_cons.2 ⟨⟨_, Go.Proofs.Tryz.func33, c33⟩, List.forall_mem_cons.2 ⟨⟨_, Go.Proofs.Tryz.func34, c34⟩, List.forall_mem_cons.2 ⟨⟨_, Go.Proofs.Tryz.func35, c35⟩, List.forall_mem_cons.2 ⟨⟨_, Go.Proofs.Tryz.func36, c36⟩, List.forall_mem_cons.2 ⟨⟨_, Go.Proofs.Tryz.func37, c37⟩, List.forall_mem_cons.2 ⟨⟨_, Go.Proofs.Tryz.func43, c43⟩, List.forall_mem_cons.2 ⟨⟨_, Go.Proofs.Tryz.func74, c74⟩, List.forall_mem_cons.2 ⟨⟨_, Go.Proofs.Tryz.func75, c75⟩, List.forall_mem_cons.2 ⟨⟨_, Go.Proofs.Tryz.func76, c76⟩, List.forall_mem_cons.2 ⟨⟨_, Go.Proofs.Tryz.func77, c77⟩, List.forall_mem_cons.2 ⟨⟨_, Go.Proofs.Tryz.func78, c78⟩, List.forall_mem_cons.2 ⟨⟨_, Go.Proofs.Tryz.func79, c79⟩, List.forall_mem_cons.2 ⟨⟨_, Go.Proofs.Tryz.func80, c80⟩, List.forall_mem_cons.2 ⟨⟨_, Go.Proofs.Tryz.func81, c81⟩, List.forall_mem_cons.2 ⟨⟨_, Go.Proofs.Tryz.func82, c82⟩, List.forall_mem_cons.2 ⟨⟨_, Go.Proofs.Tryz.func83, c83⟩, List.forall_mem_cons.2 ⟨⟨_, Go.Proofs.Tryz.func84, c84⟩, List.forall_mem_cons.2 ⟨⟨_, Go.Proofs.Tryz.func85, c85⟩, List.forall_mem_cons.2 ⟨⟨_, Go.Proofs.Tryz.func86, c86⟩, List.forall_mem_cons.2 ⟨⟨_, Go.Proofs.Tryz.func87, c87⟩, List.forall_mem_cons.2 ⟨⟨_, Go.Proofs.Tryz.func88, c88⟩, List.forall_mem_cons.2 ⟨⟨_, Go.Proofs.Tryz.func89, c89⟩, List.forall_mem_cons.2 ⟨⟨_, Go.Proofs.Tryz.func90, c90⟩, List.forall_mem_cons.2 ⟨⟨_, Go.Proofs.Tryz.func91, c91⟩, List.forall_mem_cons.2 ⟨⟨_, Go.Proofs.Tryz.func92, c92⟩, List.forall_mem_cons.2 ⟨⟨_, Go.Proofs.Tryz.func93, c93⟩, List.forall_mem_cons.2 ⟨⟨_, Go.Proofs.Tryz.func102, c102⟩, List.forall_mem_cons.2 ⟨⟨_, Go.Proofs.Tryz.func103, c103⟩, List.forall_mem_cons.2 ⟨⟨_, Go.Proofs.Tryz.func128, c128⟩, List.forall_mem_cons.2 ⟨⟨_, Go.Proofs.Tryz.func129, c129⟩, List.forall_mem_cons.2 ⟨⟨_, Go.Proofs.Tryz.func130, c130⟩, List.forall_mem_cons.2 ⟨⟨_, Go.Proofs.Tryz.func131, c131⟩, List.forall_mem_cons.2 ⟨⟨_, Go.Proofs.Tryz.func132, c132⟩, List.forall_mem_cons.2 ⟨⟨_, Go.Proofs.Tryz.func133, c133⟩, List.forall_mem_cons.2 ⟨⟨_, Go.Proofs.Tryz.func134, c134⟩, List.forall_mem_cons.2 ⟨⟨_, Go.Proofs.Tryz.func135, c135⟩, List.forall_mem_cons.2 ⟨⟨_, Go.Proofs.Tryz.func136, c136⟩, List.forall_mem_cons.2 ⟨⟨_, Go.Proofs.Tryz.func149, c149⟩, List.forall_mem_cons.2 ⟨⟨_, Go.Proofs.Tryz.func164, c164⟩, List.forall_mem_cons.2 ⟨⟨_, Go.Proofs.Tryz.func165, c165⟩, List.forall_mem_cons.2 ⟨⟨_, Go.Proofs.Tryz.func166, c166⟩, List.forall_mem_cons.2 ⟨⟨_, Go.Proofs.Tryz.func167, c167⟩, List.forall_mem_cons.2 ⟨⟨_, Go.Proofs.Tryz.func168, c168⟩, List.forall_mem_cons.2 ⟨⟨_, Go.Proofs.Tryz.func169, c169⟩, List.forall_mem_cons.2 ⟨⟨_, Go.Proofs.Tryz.func190, c190⟩, List.forall_mem_cons.2 ⟨⟨_, Go.Proofs.Tryz.func191, c191⟩, List.forall_mem_cons.2 ⟨⟨_, Go.Proofs.Tryz.func192, c192⟩, fun p hp => by cases hp⟩⟩⟩⟩⟩⟩⟩⟩⟩⟩⟩⟩⟩⟩⟩⟩⟩⟩⟩⟩⟩⟩⟩⟩⟩⟩⟩⟩⟩⟩⟩⟩⟩⟩⟩⟩⟩⟩⟩⟩⟩⟩⟩⟩⟩⟩⟩⟩⟩⟩⟩
  simp only [TA, Option.map_eq_some_iff] at h
  obtain ⟨p, hp, rfl⟩ := h
  have hm := List.mem_of_find?_eq_some hp
  have hf := List.find?_some hp
  have : p.1 = f := by simpa using hf
  subst this
  exact key p hm

def colO (fv : Value) (args : List Value) (B : AHeap) : Option Value :=
  match fv, args with
  | .func (.func 87) ⟨[]⟩ ⟨[]⟩, [.agg ⟨[.slice (some ⟨id, off, none⟩) (_ + 1) _, .int _ _]⟩] =>
    match cellAt B id off with | some (.slice _ m _) => some (.int .i64 m) | _ => none
  | _, _ => none

end Go.Lq

namespace Go.Lq
open Go
def nth : Nat → RCode → RCode
  | 0, .seq a _ => a
  | n + 1, .seq _ b => nth n b
  | _, c => c
def sidesC : List Value := [.int .i64 0, .int .i64 1, .int .i64 1, .int .i64 (-1), .int .i64 0, .int .i64 2, .int .i64 0, .int .i64 (-1), .int .i64 2, .int .i64 1, .int .i64 0, .int .i64 2, .int .i64 0, .int .i64 1, .int .i64 1]
def H0 : AHeap := [.dead, .dead, .cells false 3 sidesC, .dead, .dead, .dead, .dead, .dead, .dead, .dead, .dead, .dead, .dead]
def E0 : Env := List.replicate 102 undef
end Go.Lq

namespace Go.Lq
open Go

def E1 : Env :=
  [(.bool false), (.tuple #[]), (.tuple #[]), (.tuple #[]), (.tuple #[]), (.tuple #[]), (.tuple #[]), (.tuple #[]), (.tuple #[]), (.tuple #[]), (.tuple #[]), (.tuple #[]), (.tuple #[]), (.tuple #[]), (.tuple #[]), (.tuple #[]), (.tuple #[]), (.tuple #[]), (.tuple #[]), (.tuple #[]), (.tuple #[]), (.tuple #[]), (.tuple #[]), (.tuple #[]), (.tuple #[]), (.tuple #[]), (.tuple #[]), (.tuple #[]), (.tuple #[]), (.tuple #[]), (.tuple #[]), (.tuple #[]), (.tuple #[]), (.tuple #[]), (.tuple #[]), (.tuple #[]), (.tuple #[]), (.tuple #[]), (.tuple #[]), (.tuple #[]), (.tuple #[]), (.tuple #[]), (.tuple #[]), (.tuple #[]), (.tuple #[]), (.tuple #[]), (.tuple #[]), (.tuple #[]), (.tuple #[]), (.tuple #[]), (.tuple #[]), (.tuple #[]), (.tuple #[]), (.tuple #[]), (.tuple #[]), (.tuple #[]), (.tuple #[]), (.tuple #[]), (.tuple #[]), (.tuple #[]), (.tuple #[]), (.tuple #[]), (.tuple #[]), (.tuple #[]), (.tuple #[]), (.tuple #[]), (.tuple #[]), (.tuple #[]), (.tuple #[]), (.tuple #[]), (.tuple #[]), (.tuple #[]), (.tuple #[]), (.tuple #[]), (.tuple #[]), (.tuple #[]), (.tuple #[]), (.tuple #[]), (.tuple #[]), (.tuple #[]), (.tuple #[]), (.tuple #[]), (.tuple #[]), (.tuple #[]), (.tuple #[]), (.tuple #[]), (.tuple #[]), (.tuple #[]), (.tuple #[]), (.tuple #[]), (.tuple #[]), (.tuple #[]), (.tuple #[]), (.tuple #[]), (.tuple #[]), (.tuple #[]), (.tuple #[]), (.tuple #[]), (.tuple #[]), (.tuple #[]), (.tuple #[]), (.tuple #[])]
def H1 : AHeap :=
  [.dead, .dead, (.cells false 3 [(.int .i64 0), (.int .i64 1), (.int .i64 1), (.int .i64 (-1)), (.int .i64 0), (.int .i64 2), (.int .i64 0), (.int .i64 (-1)), (.int .i64 2), (.int .i64 1), (.int .i64 0), (.int .i64 2), (.int .i64 0), (.int .i64 1), (.int .i64 1)]), .dead, .dead, .dead, .dead, .dead, .dead, .dead, .dead, .dead, .dead]
def E2 : Env :=
  [(.bool false), (.slice (some ⟨18, 0, none⟩) 8 8), (.int .i64 0), (.tuple #[]), (.tuple #[]), (.tuple #[]), (.tuple #[]), (.tuple #[]), (.tuple #[]), (.tuple #[]), (.tuple #[]), (.tuple #[]), (.tuple #[]), (.tuple #[(.slice (some ⟨18, 0, none⟩) 8 8), (.int .i64 0)]), (.agg #[(.slice (some ⟨17, 0, none⟩) 3 3)]), (.agg #[(.int .i64 1), (.int .i64 1)]), (.tuple #[(.slice (some ⟨18, 0, none⟩) 8 8), (.int .i64 0)]), (.slice (some ⟨18, 0, none⟩) 8 8), (.int .i64 0), (.tuple #[]), (.tuple #[]), (.tuple #[]), (.tuple #[]), (.tuple #[]), (.tuple #[]), (.tuple #[]), (.tuple #[]), (.tuple #[]), (.tuple #[]), (.tuple #[]), (.tuple #[]), (.tuple #[]), (.tuple #[]), (.tuple #[]), (.tuple #[]), (.tuple #[]), (.tuple #[]), (.tuple #[]), (.tuple #[]), (.tuple #[]), (.tuple #[]), (.tuple #[]), (.tuple #[]), (.tuple #[]), (.tuple #[]), (.tuple #[]), (.tuple #[]), (.tuple #[]), (.tuple #[]), (.tuple #[]), (.tuple #[]), (.tuple #[]), (.tuple #[]), (.tuple #[]), (.tuple #[]), (.tuple #[]), (.tuple #[]), (.tuple #[]), (.tuple #[]), (.tuple #[]), (.tuple #[]), (.tuple #[]), (.tuple #[]), (.tuple #[]), (.tuple #[]), (.tuple #[]), (.tuple #[]), (.tuple #[]), (.tuple #[]), (.tuple #[]), (.tuple #[]), (.tuple #[]), (.tuple #[]), (.tuple #[]), (.tuple #[]), (.tuple #[]), (.tuple #[]), (.tuple #[]), (.tuple #[]), (.tuple #[]), (.tuple #[]), (.tuple #[]), (.tuple #[]), (.tuple #[]), (.tuple #[]), (.tuple #[]), (.tuple #[]), (.tuple #[]), (.tuple #[]), (.tuple #[]), (.tuple #[]), (.tuple #[]), (.tuple #[]), (.tuple #[]), (.tuple #[]), (.tuple #[]), (.tuple #[]), (.tuple #[]), (.tuple #[]), (.tuple #[]), (.tuple #[]), (.tuple #[])]
def H2 : AHeap :=
  [.dead, .dead, (.cells false 3 [(.int .i64 0), (.int .i64 1), (.int .i64 1), (.int .i64 (-1)), (.int .i64 0), (.int .i64 2), (.int .i64 0), (.int .i64 (-1)), (.int .i64 2), (.int .i64 1), (.int .i64 0), (.int .i64 2), (.int .i64 0), (.int .i64 1), (.int .i64 1)]), .dead, .dead, .dead, .dead, .dead, .dead, .dead, .dead, .dead, .dead, (.cells true 0 [(.slice (some ⟨17, 0, none⟩) 3 3)]), (.cells true 1 [(.int .i64 1), (.int .i64 2), (.int .i64 3)]), (.cells true 1 [(.int .i64 4), (.int .i64 5), (.int .i64 6)]), (.cells true 1 [(.int .i64 7), (.int .i64 8), (.int .i64 9)]), (.cells true 1 [(.slice (some ⟨14, 0, none⟩) 3 3), (.slice (some ⟨15, 0, none⟩) 3 3), (.slice (some ⟨16, 0, none⟩) 3 3)]), (.cells true 1 [(.int .i64 6), (.int .i64 9), (.int .i64 8), (.int .i64 7), (.int .i64 4), (.int .i64 1), (.int .i64 2), (.int .i64 3)])]
def E3 : Env :=
  [(.bool false), (.slice (some ⟨18, 0, none⟩) 8 8), (.int .i64 0), (.slice (some ⟨24, 0, none⟩) 3 3), (.int .i64 5), (.int .i64 0), (.tuple #[]), (.tuple #[]), (.tuple #[]), (.tuple #[]), (.tuple #[]), (.tuple #[]), (.tuple #[]), (.tuple #[(.slice (some ⟨18, 0, none⟩) 8 8), (.int .i64 0)]), (.agg #[(.slice (some ⟨17, 0, none⟩) 3 3)]), (.agg #[(.int .i64 1), (.int .i64 1)]), (.tuple #[(.slice (some ⟨18, 0, none⟩) 8 8), (.int .i64 0)]), (.slice (some ⟨18, 0, none⟩) 8 8), (.int .i64 0), (.tuple #[(.slice (some ⟨24, 0, none⟩) 3 3), (.int .i64 5), (.int .i64 0)]), (.agg #[(.slice (some ⟨23, 0, none⟩) 3 3), (.int .i64 1)]), (.tuple #[(.slice (some ⟨24, 0, none⟩) 3 3), (.int .i64 5), (.int .i64 0)]), (.slice (some ⟨24, 0, none⟩) 3 3), (.int .i64 5), (.int .i64 0), (.tuple #[]), (.tuple #[]), (.tuple #[]), (.tuple #[]), (.tuple #[]), (.tuple #[]), (.tuple #[]), (.tuple #[]), (.tuple #[]), (.tuple #[]), (.tuple #[]), (.tuple #[]), (.tuple #[]), (.tuple #[]), (.tuple #[]), (.tuple #[]), (.tuple #[]), (.tuple #[]), (.tuple #[]), (.tuple #[]), (.tuple #[]), (.tuple #[]), (.tuple #[]), (.tuple #[]), (.tuple #[]), (.tuple #[]), (.tuple #[]), (.tuple #[]), (.tuple #[]), (.tuple #[]), (.tuple #[]), (.tuple #[]), (.tuple #[]), (.tuple #[]), (.tuple #[]), (.tuple #[]), (.tuple #[]), (.tuple #[]), (.tuple #[]), (.tuple #[]), (.tuple #[]), (.tuple #[]), (.tuple #[]), (.tuple #[]), (.tuple #[]), (.tuple #[]), (.tuple #[]), (.tuple #[]), (.tuple #[]), (.tuple #[]), (.tuple #[]), (.tuple #[]), (.tuple #[]), (.tuple #[]), (.tuple #[]), (.tuple #[]), (.tuple #[]), (.tuple #[]), (.tuple #[]), (.tuple #[]), (.tuple #[]), (.tuple #[]), (.tuple #[]), (.tuple #[]), (.tuple #[]), (.tuple #[]), (.tuple #[]), (.tuple #[]), (.tuple #[]), (.tuple #[]), (.tuple #[]), (.tuple #[]), (.tuple #[]), (.tuple #[]), (.tuple #[]), (.tuple #[]), (.tuple #[])]
def H3 : AHeap :=
  [.dead, .dead, (.cells false 3 [(.int .i64 0), (.int .i64 1), (.int .i64 1), (.int .i64 (-1)), (.int .i64 0), (.int .i64 2), (.int .i64 0), (.int .i64 (-1)), (.int .i64 2), (.int .i64 1), (.int .i64 0), (.int .i64 2), (.int .i64 0), (.int .i64 1), (.int .i64 1)]), .dead, .dead, .dead, .dead, .dead, .dead, .dead, .dead, .dead, .dead, (.cells true 0 [(.slice (some ⟨17, 0, none⟩) 3 3)]), (.cells true 1 [(.int .i64 1), (.int .i64 2), (.int .i64 3)]), (.cells true 1 [(.int .i64 4), (.int .i64 5), (.int .i64 6)]), (.cells true 1 [(.int .i64 7), (.int .i64 8), (.int .i64 9)]), (.cells true 1 [(.slice (some ⟨14, 0, none⟩) 3 3), (.slice (some ⟨15, 0, none⟩) 3 3), (.slice (some ⟨16, 0, none⟩) 3 3)]), (.cells true 1 [(.int .i64 6), (.int .i64 9), (.int .i64 8), (.int .i64 7), (.int .i64 4), (.int .i64 1), (.int .i64 2), (.int .i64 3)]), (.cells true 0 [(.slice (some ⟨23, 0, none⟩) 3 3), (.int .i64 1)]), (.cells true 1 [(.int .i64 5), (.int .i64 1), (.int .i64 9)]), (.cells true 1 [(.int .i64 4), (.int .i64 4), (.int .i64 0)]), (.cells true 1 [(.int .i64 7), (.int .i64 2), (.int .i64 3)]), (.cells true 1 [(.slice (some ⟨20, 0, none⟩) 3 3), (.slice (some ⟨21, 0, none⟩) 3 3), (.slice (some ⟨22, 0, none⟩) 3 3)]), (.cells true 1 [(.int .i64 1), (.int .i64 2), (.int .i64 1)])]
def E4 : Env :=
  [(.bool false), (.slice (some ⟨18, 0, none⟩) 8 8), (.int .i64 0), (.slice (some ⟨24, 0, none⟩) 3 3), (.int .i64 5), (.int .i64 0), (.slice (some ⟨30, 0, none⟩) 3 3), (.int .i64 12), (.int .i64 0), (.tuple #[]), (.tuple #[]), (.tuple #[]), (.tuple #[]), (.tuple #[(.slice (some ⟨18, 0, none⟩) 8 8), (.int .i64 0)]), (.agg #[(.slice (some ⟨17, 0, none⟩) 3 3)]), (.agg #[(.int .i64 1), (.int .i64 1)]), (.tuple #[(.slice (some ⟨18, 0, none⟩) 8 8), (.int .i64 0)]), (.slice (some ⟨18, 0, none⟩) 8 8), (.int .i64 0), (.tuple #[(.slice (some ⟨24, 0, none⟩) 3 3), (.int .i64 5), (.int .i64 0)]), (.agg #[(.slice (some ⟨23, 0, none⟩) 3 3), (.int .i64 1)]), (.tuple #[(.slice (some ⟨24, 0, none⟩) 3 3), (.int .i64 5), (.int .i64 0)]), (.slice (some ⟨24, 0, none⟩) 3 3), (.int .i64 5), (.int .i64 0), (.tuple #[(.slice (some ⟨30, 0, none⟩) 3 3), (.int .i64 12), (.int .i64 0)]), (.agg #[(.slice (some ⟨29, 0, none⟩) 3 3), (.int .i64 1)]), (.tuple #[(.slice (some ⟨30, 0, none⟩) 3 3), (.int .i64 12), (.int .i64 0)]), (.slice (some ⟨30, 0, none⟩) 3 3), (.int .i64 12), (.int .i64 0), (.tuple #[]), (.tuple #[]), (.tuple #[]), (.tuple #[]), (.tuple #[]), (.tuple #[]), (.tuple #[]), (.tuple #[]), (.tuple #[]), (.tuple #[]), (.tuple #[]), (.tuple #[]), (.tuple #[]), (.tuple #[]), (.tuple #[]), (.tuple #[]), (.tuple #[]), (.tuple #[]), (.tuple #[]), (.tuple #[]), (.tuple #[]), (.tuple #[]), (.tuple #[]), (.tuple #[]), (.tuple #[]), (.tuple #[]), (.tuple #[]), (.tuple #[]), (.tuple #[]), (.tuple #[]), (.tuple #[]), (.tuple #[]), (.tuple #[]), (.tuple #[]), (.tuple #[]), (.tuple #[]), (.tuple #[]), (.tuple #[]), (.tuple #[]), (.tuple #[]), (.tuple #[]), (.tuple #[]), (.tuple #[]), (.tuple #[]), (.tuple #[]), (.tuple #[]), (.tuple #[]), (.tuple #[]), (.tuple #[]), (.tuple #[]), (.tuple #[]), (.tuple #[]), (.tuple #[]), (.tuple #[]), (.tuple #[]), (.tuple #[]), (.tuple #[]), (.tuple #[]), (.tuple #[]), (.tuple #[]), (.tuple #[]), (.tuple #[]), (.tuple #[]), (.tuple #[]), (.tuple #[]), (.tuple #[]), (.tuple #[]), (.tuple #[]), (.tuple #[]), (.tuple #[]), (.tuple #[])]
def H4 : AHeap :=
  [.dead, .dead, (.cells false 3 [(.int .i64 0), (.int .i64 1), (.int .i64 1), (.int .i64 (-1)), (.int .i64 0), (.int .i64 2), (.int .i64 0), (.int .i64 (-1)), (.int .i64 2), (.int .i64 1), (.int .i64 0), (.int .i64 2), (.int .i64 0), (.int .i64 1), (.int .i64 1)]), .dead, .dead, .dead, .dead, .dead, .dead, .dead, .dead, .dead, .dead, (.cells true 0 [(.slice (some ⟨17, 0, none⟩) 3 3)]), (.cells true 1 [(.int .i64 1), (.int .i64 2), (.int .i64 3)]), (.cells true 1 [(.int .i64 4), (.int .i64 5), (.int .i64 6)]), (.cells true 1 [(.int .i64 7), (.int .i64 8), (.int .i64 9)]), (.cells true 1 [(.slice (some ⟨14, 0, none⟩) 3 3), (.slice (some ⟨15, 0, none⟩) 3 3), (.slice (some ⟨16, 0, none⟩) 3 3)]), (.cells true 1 [(.int .i64 6), (.int .i64 9), (.int .i64 8), (.int .i64 7), (.int .i64 4), (.int .i64 1), (.int .i64 2), (.int .i64 3)]), (.cells true 0 [(.slice (some ⟨23, 0, none⟩) 3 3), (.int .i64 1)]), (.cells true 1 [(.int .i64 5), (.int .i64 1), (.int .i64 9)]), (.cells true 1 [(.int .i64 4), (.int .i64 4), (.int .i64 0)]), (.cells true 1 [(.int .i64 7), (.int .i64 2), (.int .i64 3)]), (.cells true 1 [(.slice (some ⟨20, 0, none⟩) 3 3), (.slice (some ⟨21, 0, none⟩) 3 3), (.slice (some ⟨22, 0, none⟩) 3 3)]), (.cells true 1 [(.int .i64 1), (.int .i64 2), (.int .i64 1)]), (.cells true 0 [(.slice (some ⟨29, 0, none⟩) 3 3), (.int .i64 1)]), (.cells true 1 [(.int .i64 5), (.int .i64 1), (.int .i64 9)]), (.cells true 1 [(.int .i64 4), (.int .i64 4), (.int .i64 0)]), (.cells true 1 [(.int .i64 7), (.int .i64 2), (.int .i64 3)]), (.cells true 1 [(.slice (some ⟨26, 0, none⟩) 3 3), (.slice (some ⟨27, 0, none⟩) 3 3), (.slice (some ⟨28, 0, none⟩) 3 3)]), (.cells true 1 [(.int .i64 2), (.int .i64 2), (.int .i64 1)])]
def E5 : Env :=
  [(.bool false), (.slice (some ⟨18, 0, none⟩) 8 8), (.int .i64 0), (.slice (some ⟨24, 0, none⟩) 3 3), (.int .i64 5), (.int .i64 0), (.slice (some ⟨30, 0, none⟩) 3 3), (.int .i64 12), (.int .i64 0), (.slice (some ⟨33, 0, none⟩) 5 5), (.int .i64 0), (.tuple #[]), (.tuple #[]), (.tuple #[(.slice (some ⟨18, 0, none⟩) 8 8), (.int .i64 0)]), (.agg #[(.slice (some ⟨17, 0, none⟩) 3 3)]), (.agg #[(.int .i64 1), (.int .i64 1)]), (.tuple #[(.slice (some ⟨18, 0, none⟩) 8 8), (.int .i64 0)]), (.slice (some ⟨18, 0, none⟩) 8 8), (.int .i64 0), (.tuple #[(.slice (some ⟨24, 0, none⟩) 3 3), (.int .i64 5), (.int .i64 0)]), (.agg #[(.slice (some ⟨23, 0, none⟩) 3 3), (.int .i64 1)]), (.tuple #[(.slice (some ⟨24, 0, none⟩) 3 3), (.int .i64 5), (.int .i64 0)]), (.slice (some ⟨24, 0, none⟩) 3 3), (.int .i64 5), (.int .i64 0), (.tuple #[(.slice (some ⟨30, 0, none⟩) 3 3), (.int .i64 12), (.int .i64 0)]), (.agg #[(.slice (some ⟨29, 0, none⟩) 3 3), (.int .i64 1)]), (.tuple #[(.slice (some ⟨30, 0, none⟩) 3 3), (.int .i64 12), (.int .i64 0)]), (.slice (some ⟨30, 0, none⟩) 3 3), (.int .i64 12), (.int .i64 0), (.tuple #[(.slice (some ⟨33, 0, none⟩) 5 5), (.int .i64 0)]), (.slice (some ⟨31, 0, none⟩) 5 5), (.agg #[(.int .i64 1), (.int .i64 3)]), (.slice (some ⟨32, 0, none⟩) 1 1), (.tuple #[(.slice (some ⟨33, 0, none⟩) 5 5), (.int .i64 0)]), (.slice (some ⟨33, 0, none⟩) 5 5), (.int .i64 0), (.tuple #[]), (.tuple #[]), (.tuple #[]), (.tuple #[]), (.tuple #[]), (.tuple #[]), (.tuple #[]), (.tuple #[]), (.tuple #[]), (.tuple #[]), (.tuple #[]), (.tuple #[]), (.tuple #[]), (.tuple #[]), (.tuple #[]), (.tuple #[]), (.tuple #[]), (.tuple #[]), (.tuple #[]), (.tuple #[]), (.tuple #[]), (.tuple #[]), (.tuple #[]), (.tuple #[]), (.tuple #[]), (.tuple #[]), (.tuple #[]), (.tuple #[]), (.tuple #[]), (.tuple #[]), (.tuple #[]), (.tuple #[]), (.tuple #[]), (.tuple #[]), (.tuple #[]), (.tuple #[]), (.tuple #[]), (.tuple #[]), (.tuple #[]), (.tuple #[]), (.tuple #[]), (.tuple #[]), (.tuple #[]), (.tuple #[]), (.tuple #[]), (.tuple #[]), (.tuple #[]), (.tuple #[]), (.tuple #[]), (.tuple #[]), (.tuple #[]), (.tuple #[]), (.tuple #[]), (.tuple #[]), (.tuple #[]), (.tuple #[]), (.tuple #[]), (.tuple #[]), (.tuple #[]), (.tuple #[]), (.tuple #[]), (.tuple #[]), (.tuple #[]), (.tuple #[])]
def H5 : AHeap :=
  [.dead, .dead, (.cells false 3 [(.int .i64 0), (.int .i64 1), (.int .i64 1), (.int .i64 (-1)), (.int .i64 0), (.int .i64 2), (.int .i64 0), (.int .i64 (-1)), (.int .i64 2), (.int .i64 1), (.int .i64 0), (.int .i64 2), (.int .i64 0), (.int .i64 1), (.int .i64 1)]), .dead, .dead, .dead, .dead, .dead, .dead, .dead, .dead, .dead, .dead, (.cells true 0 [(.slice (some ⟨17, 0, none⟩) 3 3)]), (.cells true 1 [(.int .i64 1), (.int .i64 2), (.int .i64 3)]), (.cells true 1 [(.int .i64 4), (.int .i64 5), (.int .i64 6)]), (.cells true 1 [(.int .i64 7), (.int .i64 8), (.int .i64 9)]), (.cells true 1 [(.slice (some ⟨14, 0, none⟩) 3 3), (.slice (some ⟨15, 0, none⟩) 3 3), (.slice (some ⟨16, 0, none⟩) 3 3)]), (.cells true 1 [(.int .i64 6), (.int .i64 9), (.int .i64 8), (.int .i64 7), (.int .i64 4), (.int .i64 1), (.int .i64 2), (.int .i64 3)]), (.cells true 0 [(.slice (some ⟨23, 0, none⟩) 3 3), (.int .i64 1)]), (.cells true 1 [(.int .i64 5), (.int .i64 1), (.int .i64 9)]), (.cells true 1 [(.int .i64 4), (.int .i64 4), (.int .i64 0)]), (.cells true 1 [(.int .i64 7), (.int .i64 2), (.int .i64 3)]), (.cells true 1 [(.slice (some ⟨20, 0, none⟩) 3 3), (.slice (some ⟨21, 0, none⟩) 3 3), (.slice (some ⟨22, 0, none⟩) 3 3)]), (.cells true 1 [(.int .i64 1), (.int .i64 2), (.int .i64 1)]), (.cells true 0 [(.slice (some ⟨29, 0, none⟩) 3 3), (.int .i64 1)]), (.cells true 1 [(.int .i64 5), (.int .i64 1), (.int .i64 9)]), (.cells true 1 [(.int .i64 4), (.int .i64 4), (.int .i64 0)]), (.cells true 1 [(.int .i64 7), (.int .i64 2), (.int .i64 3)]), (.cells true 1 [(.slice (some ⟨26, 0, none⟩) 3 3), (.slice (some ⟨27, 0, none⟩) 3 3), (.slice (some ⟨28, 0, none⟩) 3 3)]), (.cells true 1 [(.int .i64 2), (.int .i64 2), (.int .i64 1)]), (.cells true 1 [(.int .i64 0), (.int .i64 9), (.int .i64 9), (.int .i64 9), (.int .i64 8)]), (.cells true 2 [(.int .i64 1), (.int .i64 3)]), (.cells true 1 [(.int .i64 0), (.int .i64 2), (.int .i64 4), (.int .i64 6), (.int .i64 8)])]
def E6 : Env :=
  [(.bool false), (.slice (some ⟨18, 0, none⟩) 8 8), (.int .i64 0), (.slice (some ⟨24, 0, none⟩) 3 3), (.int .i64 5), (.int .i64 0), (.slice (some ⟨30, 0, none⟩) 3 3), (.int .i64 12), (.int .i64 0), (.slice (some ⟨33, 0, none⟩) 5 5), (.int .i64 0), (.slice (some ⟨35, 0, none⟩) 1 1), (.int .i64 0), (.tuple #[(.slice (some ⟨18, 0, none⟩) 8 8), (.int .i64 0)]), (.agg #[(.slice (some ⟨17, 0, none⟩) 3 3)]), (.agg #[(.int .i64 1), (.int .i64 1)]), (.tuple #[(.slice (some ⟨18, 0, none⟩) 8 8), (.int .i64 0)]), (.slice (some ⟨18, 0, none⟩) 8 8), (.int .i64 0), (.tuple #[(.slice (some ⟨24, 0, none⟩) 3 3), (.int .i64 5), (.int .i64 0)]), (.agg #[(.slice (some ⟨23, 0, none⟩) 3 3), (.int .i64 1)]), (.tuple #[(.slice (some ⟨24, 0, none⟩) 3 3), (.int .i64 5), (.int .i64 0)]), (.slice (some ⟨24, 0, none⟩) 3 3), (.int .i64 5), (.int .i64 0), (.tuple #[(.slice (some ⟨30, 0, none⟩) 3 3), (.int .i64 12), (.int .i64 0)]), (.agg #[(.slice (some ⟨29, 0, none⟩) 3 3), (.int .i64 1)]), (.tuple #[(.slice (some ⟨30, 0, none⟩) 3 3), (.int .i64 12), (.int .i64 0)]), (.slice (some ⟨30, 0, none⟩) 3 3), (.int .i64 12), (.int .i64 0), (.tuple #[(.slice (some ⟨33, 0, none⟩) 5 5), (.int .i64 0)]), (.slice (some ⟨31, 0, none⟩) 5 5), (.agg #[(.int .i64 1), (.int .i64 3)]), (.slice (some ⟨32, 0, none⟩) 1 1), (.tuple #[(.slice (some ⟨33, 0, none⟩) 5 5), (.int .i64 0)]), (.slice (some ⟨33, 0, none⟩) 5 5), (.int .i64 0), (.tuple #[(.slice (some ⟨35, 0, none⟩) 1 1), (.int .i64 0)]), (.agg #[(.int .i64 3), (.int .i64 8)]), (.slice (some ⟨34, 0, none⟩) 1 1), (.tuple #[(.slice (some ⟨35, 0, none⟩) 1 1), (.int .i64 0)]), (.slice (some ⟨35, 0, none⟩) 1 1), (.int .i64 0), (.tuple #[]), (.tuple #[]), (.tuple #[]), (.tuple #[]), (.tuple #[]), (.tuple #[]), (.tuple #[]), (.tuple #[]), (.tuple #[]), (.tuple #[]), (.tuple #[]), (.tuple #[]), (.tuple #[]), (.tuple #[]), (.tuple #[]), (.tuple #[]), (.tuple #[]), (.tuple #[]), (.tuple #[]), (.tuple #[]), (.tuple #[]), (.tuple #[]), (.tuple #[]), (.tuple #[]), (.tuple #[]), (.tuple #[]), (.tuple #[]), (.tuple #[]), (.tuple #[]), (.tuple #[]), (.tuple #[]), (.tuple #[]), (.tuple #[]), (.tuple #[]), (.tuple #[]), (.tuple #[]), (.tuple #[]), (.tuple #[]), (.tuple #[]), (.tuple #[]), (.tuple #[]), (.tuple #[]), (.tuple #[]), (.tuple #[]), (.tuple #[]), (.tuple #[]), (.tuple #[]), (.tuple #[]), (.tuple #[]), (.tuple #[]), (.tuple #[]), (.tuple #[]), (.tuple #[]), (.tuple #[]), (.tuple #[]), (.tuple #[]), (.tuple #[]), (.tuple #[])]
def H6 : AHeap :=
  [.dead, .dead, (.cells false 3 [(.int .i64 0), (.int .i64 1), (.int .i64 1), (.int .i64 (-1)), (.int .i64 0), (.int .i64 2), (.int .i64 0), (.int .i64 (-1)), (.int .i64 2), (.int .i64 1), (.int .i64 0), (.int .i64 2), (.int .i64 0), (.int .i64 1), (.int .i64 1)]), .dead, .dead, .dead, .dead, .dead, .dead, .dead, .dead, .dead, .dead, (.cells true 0 [(.slice (some ⟨17, 0, none⟩) 3 3)]), (.cells true 1 [(.int .i64 1), (.int .i64 2), (.int .i64 3)]), (.cells true 1 [(.int .i64 4), (.int .i64 5), (.int .i64 6)]), (.cells true 1 [(.int .i64 7), (.int .i64 8), (.int .i64 9)]), (.cells true 1 [(.slice (some ⟨14, 0, none⟩) 3 3), (.slice (some ⟨15, 0, none⟩) 3 3), (.slice (some ⟨16, 0, none⟩) 3 3)]), (.cells true 1 [(.int .i64 6), (.int .i64 9), (.int .i64 8), (.int .i64 7), (.int .i64 4), (.int .i64 1), (.int .i64 2), (.int .i64 3)]), (.cells true 0 [(.slice (some ⟨23, 0, none⟩) 3 3), (.int .i64 1)]), (.cells true 1 [(.int .i64 5), (.int .i64 1), (.int .i64 9)]), (.cells true 1 [(.int .i64 4), (.int .i64 4), (.int .i64 0)]), (.cells true 1 [(.int .i64 7), (.int .i64 2), (.int .i64 3)]), (.cells true 1 [(.slice (some ⟨20, 0, none⟩) 3 3), (.slice (some ⟨21, 0, none⟩) 3 3), (.slice (some ⟨22, 0, none⟩) 3 3)]), (.cells true 1 [(.int .i64 1), (.int .i64 2), (.int .i64 1)]), (.cells true 0 [(.slice (some ⟨29, 0, none⟩) 3 3), (.int .i64 1)]), (.cells true 1 [(.int .i64 5), (.int .i64 1), (.int .i64 9)]), (.cells true 1 [(.int .i64 4), (.int .i64 4), (.int .i64 0)]), (.cells true 1 [(.int .i64 7), (.int .i64 2), (.int .i64 3)]), (.cells true 1 [(.slice (some ⟨26, 0, none⟩) 3 3), (.slice (some ⟨27, 0, none⟩) 3 3), (.slice (some ⟨28, 0, none⟩) 3 3)]), (.cells true 1 [(.int .i64 2), (.int .i64 2), (.int .i64 1)]), (.cells true 1 [(.int .i64 0), (.int .i64 9), (.int .i64 9), (.int .i64 9), (.int .i64 8)]), (.cells true 2 [(.int .i64 1), (.int .i64 3)]), (.cells true 1 [(.int .i64 0), (.int .i64 2), (.int .i64 4), (.int .i64 6), (.int .i64 8)]), (.cells true 2 [(.int .i64 3), (.int .i64 8)]), (.cells true 2 [(.int .i64 11), (.int .i64 5)])]
def E7 : Env :=
  [(.bool true), (.slice (some ⟨18, 0, none⟩) 8 8), (.int .i64 0), (.slice (some ⟨24, 0, none⟩) 3 3), (.int .i64 5), (.int .i64 0), (.slice (some ⟨30, 0, none⟩) 3 3), (.int .i64 12), (.int .i64 0), (.slice (some ⟨33, 0, none⟩) 5 5), (.int .i64 0), (.slice (some ⟨35, 0, none⟩) 1 1), (.int .i64 0), (.tuple #[(.slice (some ⟨18, 0, none⟩) 8 8), (.int .i64 0)]), (.agg #[(.slice (some ⟨17, 0, none⟩) 3 3)]), (.agg #[(.int .i64 1), (.int .i64 1)]), (.tuple #[(.slice (some ⟨18, 0, none⟩) 8 8), (.int .i64 0)]), (.slice (some ⟨18, 0, none⟩) 8 8), (.int .i64 0), (.tuple #[(.slice (some ⟨24, 0, none⟩) 3 3), (.int .i64 5), (.int .i64 0)]), (.agg #[(.slice (some ⟨23, 0, none⟩) 3 3), (.int .i64 1)]), (.tuple #[(.slice (some ⟨24, 0, none⟩) 3 3), (.int .i64 5), (.int .i64 0)]), (.slice (some ⟨24, 0, none⟩) 3 3), (.int .i64 5), (.int .i64 0), (.tuple #[(.slice (some ⟨30, 0, none⟩) 3 3), (.int .i64 12), (.int .i64 0)]), (.agg #[(.slice (some ⟨29, 0, none⟩) 3 3), (.int .i64 1)]), (.tuple #[(.slice (some ⟨30, 0, none⟩) 3 3), (.int .i64 12), (.int .i64 0)]), (.slice (some ⟨30, 0, none⟩) 3 3), (.int .i64 12), (.int .i64 0), (.tuple #[(.slice (some ⟨33, 0, none⟩) 5 5), (.int .i64 0)]), (.slice (some ⟨31, 0, none⟩) 5 5), (.agg #[(.int .i64 1), (.int .i64 3)]), (.slice (some ⟨32, 0, none⟩) 1 1), (.tuple #[(.slice (some ⟨33, 0, none⟩) 5 5), (.int .i64 0)]), (.slice (some ⟨33, 0, none⟩) 5 5), (.int .i64 0), (.tuple #[(.slice (some ⟨35, 0, none⟩) 1 1), (.int .i64 0)]), (.agg #[(.int .i64 3), (.int .i64 8)]), (.slice (some ⟨34, 0, none⟩) 1 1), (.tuple #[(.slice (some ⟨35, 0, none⟩) 1 1), (.int .i64 0)]), (.slice (some ⟨35, 0, none⟩) 1 1), (.int .i64 0), (.int .i64 0), (.bool true), (.bool true), (.slice (some ⟨18, 0, none⟩) 8 8), (.slice (some ⟨36, 0, none⟩) 8 8), (.bool true), (.bool true), (.bool true), (.int .i64 0), (.bool true), (.bool true), (.bool true), (.int .i64 5), (.bool true), (.bool true), (.bool true), (.slice (some ⟨24, 0, none⟩) 3 3), (.slice (some ⟨37, 0, none⟩) 3 3), (.bool true), (.bool true), (.bool true), (.int .i64 0), (.bool true), (.bool true), (.bool true), (.int .i64 12), (.bool true), (.bool true), (.bool true), (.slice (some ⟨30, 0, none⟩) 3 3), (.slice (some ⟨38, 0, none⟩) 3 3), (.bool true), (.bool true), (.bool true), (.int .i64 0), (.bool true), (.bool true), (.bool true), (.slice (some ⟨33, 0, none⟩) 5 5), (.slice (some ⟨39, 0, none⟩) 5 5), (.bool true), (.bool true), (.bool true), (.int .i64 0), (.bool true), (.bool true), (.bool true), (.slice (some ⟨35, 0, none⟩) 1 1), (.int .i64 1), (.bool true), (.bool true), (.bool true), (.slice (some ⟨35, 0, none⟩) 1 1), (.pointer (some ⟨35, 0, none⟩)), (.agg #[(.int .i64 11), (.int .i64 5)]), (.agg #[(.int .i64 11), (.int .i64 5)]), (.bool true), (.bool true)]
def H7 : AHeap :=
  [.dead, .dead, (.cells false 3 [(.int .i64 0), (.int .i64 1), (.int .i64 1), (.int .i64 (-1)), (.int .i64 0), (.int .i64 2), (.int .i64 0), (.int .i64 (-1)), (.int .i64 2), (.int .i64 1), (.int .i64 0), (.int .i64 2), (.int .i64 0), (.int .i64 1), (.int .i64 1)]), .dead, .dead, .dead, .dead, .dead, .dead, .dead, .dead, .dead, .dead, (.cells true 0 [(.slice (some ⟨17, 0, none⟩) 3 3)]), (.cells true 1 [(.int .i64 1), (.int .i64 2), (.int .i64 3)]), (.cells true 1 [(.int .i64 4), (.int .i64 5), (.int .i64 6)]), (.cells true 1 [(.int .i64 7), (.int .i64 8), (.int .i64 9)]), (.cells true 1 [(.slice (some ⟨14, 0, none⟩) 3 3), (.slice (some ⟨15, 0, none⟩) 3 3), (.slice (some ⟨16, 0, none⟩) 3 3)]), (.cells true 1 [(.int .i64 6), (.int .i64 9), (.int .i64 8), (.int .i64 7), (.int .i64 4), (.int .i64 1), (.int .i64 2), (.int .i64 3)]), (.cells true 0 [(.slice (some ⟨23, 0, none⟩) 3 3), (.int .i64 1)]), (.cells true 1 [(.int .i64 5), (.int .i64 1), (.int .i64 9)]), (.cells true 1 [(.int .i64 4), (.int .i64 4), (.int .i64 0)]), (.cells true 1 [(.int .i64 7), (.int .i64 2), (.int .i64 3)]), (.cells true 1 [(.slice (some ⟨20, 0, none⟩) 3 3), (.slice (some ⟨21, 0, none⟩) 3 3), (.slice (some ⟨22, 0, none⟩) 3 3)]), (.cells true 1 [(.int .i64 1), (.int .i64 2), (.int .i64 1)]), (.cells true 0 [(.slice (some ⟨29, 0, none⟩) 3 3), (.int .i64 1)]), (.cells true 1 [(.int .i64 5), (.int .i64 1), (.int .i64 9)]), (.cells true 1 [(.int .i64 4), (.int .i64 4), (.int .i64 0)]), (.cells true 1 [(.int .i64 7), (.int .i64 2), (.int .i64 3)]), (.cells true 1 [(.slice (some ⟨26, 0, none⟩) 3 3), (.slice (some ⟨27, 0, none⟩) 3 3), (.slice (some ⟨28, 0, none⟩) 3 3)]), (.cells true 1 [(.int .i64 2), (.int .i64 2), (.int .i64 1)]), (.cells true 1 [(.int .i64 0), (.int .i64 9), (.int .i64 9), (.int .i64 9), (.int .i64 8)]), (.cells true 2 [(.int .i64 1), (.int .i64 3)]), (.cells true 1 [(.int .i64 0), (.int .i64 2), (.int .i64 4), (.int .i64 6), (.int .i64 8)]), (.cells true 2 [(.int .i64 3), (.int .i64 8)]), (.cells true 2 [(.int .i64 11), (.int .i64 5)]), (.cells true 1 [(.int .i64 6), (.int .i64 9), (.int .i64 8), (.int .i64 7), (.int .i64 4), (.int .i64 1), (.int .i64 2), (.int .i64 3)]), (.cells true 1 [(.int .i64 1), (.int .i64 2), (.int .i64 1)]), (.cells true 1 [(.int .i64 2), (.int .i64 2), (.int .i64 1)]), (.cells true 1 [(.int .i64 0), (.int .i64 2), (.int .i64 4), (.int .i64 6), (.int .i64 8)])]
theorem awake0 : run TA colO 400 (.code (nth 0 R5.code) none E0) H0 = some (.normal, E1, H1, 1000000000000) := by kernel_rfl
theorem awake1 : run TA colO 400 (.code (nth 1 R5.code) none E1) H1 = some (.normal, E2, H2, 13) := by kernel_rfl
theorem awake2 : run TA colO 400 (.code (nth 2 R5.code) none E2) H2 = some (.normal, E3, H3, 19) := by kernel_rfl
theorem awake3 : run TA colO 400 (.code (nth 3 R5.code) none E3) H3 = some (.normal, E4, H4, 25) := by kernel_rfl
theorem awake4 : run TA colO 400 (.code (nth 4 R5.code) none E4) H4 = some (.normal, E5, H5, 1000000000000) := by kernel_rfl
theorem awake5 : run TA colO 400 (.code (nth 5 R5.code) none E5) H5 = some (.normal, E6, H6, 1000000000000) := by kernel_rfl
theorem awake6 : run TA colO 400 (.code (nth 6 R5.code) none E6) H6 = some (.normal, E7, H7, 1000000000000) := by kernel_rfl
end Go.Lq

namespace Go.Lq
open Go

theorem soundO : SoundO Go.Proofs.Tryz.prog colO := by
  intro fv args B v h N
  unfold colO at h
  split at h
  · rename_i id off m' c' k b
    split at h
    · rename_i ad m c hc
      cases h
      show ACall _ _ _ _ _
      refine ACall.drop (.int _ _) ?_
      have hx : Ext B ((B ++ N) ++ [.cells true 0 [.slice (some ⟨id, off, none⟩) (m' + 1) c', .int k b]]) := ((Ext.refl B).app N).app _
      have hld : ∀ G, Ext B G → loadR (.pointer (some ⟨id, off, none⟩)) G = some (.slice ad m c, G) := fun G hx => by
        simp only [loadR, cellAt_ext hx hc, Option.map_some]
      have hbx : boxR (.agg ⟨[.slice (some ⟨id, off, none⟩) (m' + 1) c', .int k b]⟩) (B ++ N) = some (.pointer (some ⟨(B ++ N).length, 0, none⟩), (B ++ N) ++ [.cells true 0 [.slice (some ⟨id, off, none⟩) (m' + 1) c', .int k b]]) := rfl
      have hl0 : ∀ o, loadR (.pointer (some ⟨(B ++ N).length, 0, none⟩)) ((B ++ N) ++ [.cells true 0 (.slice (some ⟨id, off, none⟩) (m' + 1) c' :: o)]) = some (.slice (some ⟨id, off, none⟩) (m' + 1) c', (B ++ N) ++ [.cells true 0 (.slice (some ⟨id, off, none⟩) (m' + 1) c' :: o)]) := fun o => by
        unfold loadR cellAt
        simp only
        rw [List.getElem?_append_right (Nat.le_refl _), Nat.sub_self]
        rfl
      have hix : ∀ H, idxR 1 (.slice (some ⟨id, off, none⟩) (m' + 1) c') (.int .i64 0) H = some (.pointer (some ⟨id, off, none⟩), H) := fun H => by
        simp only [idxR]; rw [if_pos ⟨by omega, by omega⟩]; rfl
      (refine a87 ?_; simp only [n87, List.replicate, List.length_cons, List.length_nil, List.cons_append, List.nil_append]; first | refine Go.Lq.q1 ?_ | refine Go.Lq.q2 ?_ | refine Go.Lq.q6 ?_ | refine Go.Lq.q7 ?_ | refine Go.Lq.qh rfl ?_ | skip)
      refine yx ?_; (refine aops_until (by simp (disch := first|exact zz|fail) only [go_sem, hbx]; with_reducible rfl) ?_); refine yx ?_; (refine aops_until (by simp (disch := first|exact zz|fail) only [go_sem, hl0, hix, hld _ hx, Nat.zero_add, Nat.add_zero]; with_reducible rfl) ?_); refine yx ?_
      exact fin_1 ⟨rfl, ⟨_, rfl⟩⟩
    · cases h
  · cases h

theorem awp_run {n : Nat} {c : RCode} {ar : Option Nat} {e e' : Env} {H H' : AHeap} {x : AExit} {lo : Nat} {Q : AExit → Env → AHeap → Prop}
    (h : run TA colO n (.code c ar e) H = some (x, e', H', lo)) (k : Q x e' H') : AWP Go.Proofs.Tryz.prog ar c Q e H :=
  CodeSound.awp (run_sound mo soundTA soundO n _ _ _ _ _ _ h).2 k

theorem awake0_c : ACall Go.Proofs.Tryz.prog 5 [] H0 fun v H => v = .bool true ∧ H = H0 := by
  refine ACall.drop (.bool _) ?_
  refine a5 ?_
  show AWP _ _ _ _ E0 H0
  refine awp_seq (awp_run awake0 ?_)
  refine awp_seq (awp_run awake1 ?_)
  refine awp_seq (awp_run awake2 ?_)
  refine awp_seq (awp_run awake3 ?_)
  refine awp_seq (awp_run awake4 ?_)
  refine awp_seq (awp_run awake5 ?_)
  refine awp_seq (awp_run awake6 ?_)
  refine awp_ret ?_
  refine fin_1 ⟨rfl, ?_⟩
  exact ⟨H7.drop 13, rfl⟩

theorem own0_closed (i : Nat) (x : AObj) (hx : H0[i]? = some x) : match x with | .cells _ _ vs => ∀ v ∈ vs, Closed v | .dead => True | .row _ => True | .loop _ => False | .map _ => False := by
  have hm : x = .dead ∨ x = .cells false 3 sidesC := by
    have := List.mem_of_getElem? hx
    simp only [H0, List.mem_cons, List.not_mem_nil, or_false] at this
    rcases this with h | h | h | h | h | h | h | h | h | h | h | h | h <;> first | exact .inl h | exact .inr h
  rcases hm with rfl | rfl
  · trivial
  · intro v hv
    simp only [sidesC, List.mem_cons, List.not_mem_nil, or_false] at hv
    rcases hv with rfl | rfl | rfl | rfl | rfl | rfl | rfl | rfl | rfl | rfl | rfl | rfl | rfl | rfl | rfl <;> exact .int _ _
theorem own0 : OwnHeap H0 := fun i x hx => by
  have := own0_closed i x hx
  match x with
  | .dead => trivial
  | .row _ => trivial
  | .loop _ => exact this
  | .map _ => exact this
  | .cells _ _ vs => exact fun v hv => (this v hv).ren _ _
end Go.Lq
