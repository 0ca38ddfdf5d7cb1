/- Towards TopGrooveStereo of seat Ytpgemmklfaedfaa: it returns true for every input. Made out of the proof's own texts, merged. -/
import Derived.Test.YtpgemmklfaedfaaProg
import Derived.KernelRfl
import Derived.Test.YtpgemmklfaedfaaRows
import Derived.LaidMore
import Derived.Test.YtpgemmklfaedfaaB4
set_option linter.unusedSimpArgs false
set_option linter.unnecessarySimpa false
set_option linter.unusedVariables false
set_option linter.unusedSectionVars false
set_option maxRecDepth 100000
namespace Go.Lq
open Go
theorem mo : Go.Proofs.Try.prog.follows .mixedOrders = true := by kernel_rfl

def R3 : RFunc :=
  ⟨(.seq (.ops [⟨(some 2), (.mov (.const (.bool false))), none⟩]) (.seq (.seq (.ops [⟨(some 31), (.call (.func 4) []), none⟩, ⟨(some 32), (.not (.tmp 31)), none⟩]) (.cond (.tmp 32) (.seq (.ops [⟨(some 2), (.mov (.const (.bool false))), none⟩]) .ret) .skip)) (.seq (.seq (.ops [⟨(some 33), (.mov (.tmp 0)), none⟩, ⟨(some 34), (.len (.tmp 33)), none⟩, ⟨(some 35), (.cmp .eql (.tmp 34) (.const (.int .i64 0))), none⟩, ⟨(some 36), (.mov (.tmp 35)), none⟩, ⟨(some 37), (.mov (.tmp 0)), (some (36, false))⟩, ⟨(some 38), (.len (.tmp 37)), (some (36, false))⟩, ⟨(some 39), (.cmp .gtr (.tmp 38) (.const (.int .i64 60))), (some (36, false))⟩, ⟨(some 40), (.pick (.tmp 36) (.const (.bool true)) (.tmp 39)), none⟩, ⟨(some 41), (.mov (.tmp 40)), none⟩, ⟨(some 42), (.mov (.tmp 0)), (some (41, false))⟩, ⟨(some 43), (.call (.func 5) [(.tmp 42)]), (some (41, false))⟩, ⟨(some 44), (.cmp .neq (.tmp 43) (.const (.int .i64 0))), (some (41, false))⟩, ⟨(some 45), (.pick (.tmp 41) (.const (.bool true)) (.tmp 44)), none⟩]) (.cond (.tmp 45) (.seq (.ops [⟨(some 2), (.mov (.const (.bool true))), none⟩]) .ret) .skip)) (.seq (.ops [⟨(some 47), (.mov (.tmp 0)), none⟩, ⟨(some 48), (.call (.func 7) [(.tmp 47)]), none⟩, ⟨(some 49), (.call (.func 6) [(.tmp 48)]), none⟩, ⟨(some 46), (.mov (.tmp 49)), none⟩, ⟨(some 50), (.extract (.tmp 46) 0), none⟩, ⟨(some 51), (.extract (.tmp 46) 1), none⟩, ⟨(some 3), (.mov (.tmp 50)), none⟩, ⟨(some 4), (.mov (.tmp 51)), none⟩]) (.seq (.ops [⟨(some 53), (.mov (.tmp 0)), none⟩, ⟨(some 54), (.call (.func 7) [(.tmp 53)]), none⟩, ⟨(some 55), (.call (.func 8) [(.tmp 54)]), none⟩, ⟨(some 52), (.mov (.tmp 55)), none⟩, ⟨(some 56), (.extract (.tmp 52) 0), none⟩, ⟨(some 57), (.extract (.tmp 52) 1), none⟩, ⟨(some 5), (.mov (.tmp 56)), none⟩, ⟨(some 6), (.mov (.tmp 57)), none⟩]) (.seq (.seq (.ops [⟨(some 58), (.mov (.tmp 4)), none⟩, ⟨(some 59), (.cmp .neq (.tmp 58) (.const (.int .i64 0))), none⟩, ⟨(some 60), (.mov (.tmp 59)), none⟩, ⟨(some 61), (.mov (.tmp 6)), (some (60, false))⟩, ⟨(some 62), (.cmp .neq (.tmp 61) (.const (.int .i64 0))), (some (60, false))⟩, ⟨(some 63), (.pick (.tmp 60) (.const (.bool true)) (.tmp 62)), none⟩, ⟨(some 64), (.mov (.tmp 63)), none⟩, ⟨(some 65), (.mov (.tmp 3)), (some (64, false))⟩, ⟨(some 66), (.len (.tmp 65)), (some (64, false))⟩, ⟨(some 67), (.mov (.tmp 0)), (some (64, false))⟩, ⟨(some 68), (.len (.tmp 67)), (some (64, false))⟩, ⟨(some 69), (.cmp .neq (.tmp 66) (.tmp 68)), (some (64, false))⟩, ⟨(some 70), (.pick (.tmp 64) (.const (.bool true)) (.tmp 69)), none⟩, ⟨(some 71), (.mov (.tmp 70)), none⟩, ⟨(some 72), (.mov (.tmp 5)), (some (71, false))⟩, ⟨(some 73), (.len (.tmp 72)), (some (71, false))⟩, ⟨(some 74), (.mov (.tmp 0)), (some (71, false))⟩, ⟨(some 75), (.len (.tmp 74)), (some (71, false))⟩, ⟨(some 76), (.cmp .neq (.tmp 73) (.tmp 75)), (some (71, false))⟩, ⟨(some 77), (.pick (.tmp 71) (.const (.bool true)) (.tmp 76)), none⟩]) (.cond (.tmp 77) (.seq (.ops [⟨(some 2), (.mov (.const (.bool false))), none⟩]) .ret) .skip)) (.seq (.ops [⟨(some 7), (.mov (.const (.slice none 0 0))), none⟩, ⟨(some 8), (.mov (.const (.slice none 0 0))), none⟩, ⟨(some 9), (.mov (.const (.slice none 0 0))), none⟩, ⟨(some 10), (.mov (.const (.slice none 0 0))), none⟩]) (.seq (.seq (.ops [⟨(some 11), (.mov (.const (.int .i64 0))), none⟩]) (.block 0 (.loop (.seq (.seq (.ops [⟨(some 78), (.mov (.tmp 11)), none⟩, ⟨(some 79), (.mov (.tmp 0)), none⟩, ⟨(some 80), (.len (.tmp 79)), none⟩, ⟨(some 81), (.cmp .lss (.tmp 78) (.tmp 80)), none⟩]) (.cond (.tmp 81) .skip (.exit 0))) (.seq (.block 1 (.seq (.seq (.draw [(⟨(some 84), (.mov (.tmp 3)), none⟩, false), (⟨(some 85), (.mov (.tmp 11)), none⟩, false), (⟨(some 86), (.idxAddr 2 (.tmp 84) (.tmp 85)), none⟩, false), (⟨(some 87), (.fieldAddr 1 (.tmp 86)), none⟩, false), (⟨(some 88), (.load (.tmp 87)), none⟩, false), (⟨(some 89), (.mov (.tmp 5)), none⟩, false), (⟨(some 90), (.mov (.tmp 11)), none⟩, false), (⟨(some 91), (.idxAddr 1 (.tmp 89) (.tmp 90)), none⟩, false), (⟨(some 92), (.load (.tmp 91)), none⟩, false), (⟨(some 93), (.cmp .neq (.tmp 88) (.tmp 92)), none⟩, false)]) (.cond (.tmp 93) (.seq (.ops [⟨(some 2), (.mov (.const (.bool false))), none⟩]) .ret) .skip)) (.seq (.anyO [(⟨(some 94), (.mov (.tmp 7)), none⟩, []), (⟨(some 95), (.mov (.tmp 0)), none⟩, []), (⟨(some 96), (.mov (.tmp 11)), none⟩, []), (⟨(some 97), (.idxAddr 2 (.tmp 95) (.tmp 96)), none⟩, [1, 2]), (⟨(some 98), (.fieldAddr 0 (.tmp 97)), none⟩, [3]), (⟨(some 99), (.load (.tmp 98)), none⟩, [4]), (⟨(some 100), (.buildSlice 1 1 [(.int .i64 0)] [(0, (1, (.tmp 99)))]), none⟩, [5]), (⟨(some 101), (.append 1 8 (.tmp 94) (.tmp 100)), none⟩, [0, 6]), (⟨(some 102), (.mov (.tmp 8)), none⟩, []), (⟨(some 103), (.mov (.tmp 0)), none⟩, []), (⟨(some 104), (.mov (.tmp 11)), none⟩, []), (⟨(some 105), (.idxAddr 2 (.tmp 103) (.tmp 104)), none⟩, [9, 10]), (⟨(some 106), (.fieldAddr 1 (.tmp 105)), none⟩, [11]), (⟨(some 107), (.load (.tmp 106)), none⟩, [12]), (⟨(some 108), (.buildSlice 1 1 [(.int .i64 0)] [(0, (1, (.tmp 107)))]), none⟩, [13]), (⟨(some 109), (.append 1 8 (.tmp 102) (.tmp 108)), none⟩, [8, 14, 7]), (⟨(some 7), (.mov (.tmp 101)), none⟩, [7, 15, 0, 1, 2, 3, 4, 5, 6, 7]), (⟨(some 8), (.mov (.tmp 109)), none⟩, [15, 16, 0, 1, 2, 3, 4, 5, 6, 7, 8, 9, 10, 11, 12, 13, 14, 15, 16])]) (.anyO [(⟨(some 110), (.mov (.tmp 9)), none⟩, []), (⟨(some 111), (.mov (.tmp 3)), none⟩, []), (⟨(some 112), (.mov (.tmp 11)), none⟩, []), (⟨(some 113), (.idxAddr 2 (.tmp 111) (.tmp 112)), none⟩, [1, 2]), (⟨(some 114), (.fieldAddr 0 (.tmp 113)), none⟩, [3]), (⟨(some 115), (.load (.tmp 114)), none⟩, [4]), (⟨(some 116), (.buildSlice 1 1 [(.int .i64 0)] [(0, (1, (.tmp 115)))]), none⟩, [5]), (⟨(some 117), (.append 1 8 (.tmp 110) (.tmp 116)), none⟩, [0, 6]), (⟨(some 118), (.mov (.tmp 10)), none⟩, []), (⟨(some 119), (.mov (.tmp 3)), none⟩, []), (⟨(some 120), (.mov (.tmp 11)), none⟩, []), (⟨(some 121), (.idxAddr 2 (.tmp 119) (.tmp 120)), none⟩, [9, 10]), (⟨(some 122), (.fieldAddr 1 (.tmp 121)), none⟩, [11]), (⟨(some 123), (.load (.tmp 122)), none⟩, [12]), (⟨(some 124), (.buildSlice 1 1 [(.int .i64 0)] [(0, (1, (.tmp 123)))]), none⟩, [13]), (⟨(some 125), (.append 1 8 (.tmp 118) (.tmp 124)), none⟩, [8, 14, 7]), (⟨(some 9), (.mov (.tmp 117)), none⟩, [7, 15, 0, 1, 2, 3, 4, 5, 6, 7]), (⟨(some 10), (.mov (.tmp 125)), none⟩, [15, 16, 0, 1, 2, 3, 4, 5, 6, 7, 8, 9, 10, 11, 12, 13, 14, 15, 16])])))) (.ops [⟨(some 82), (.mov (.tmp 11)), none⟩, ⟨(some 83), (.arith .add (.tmp 82) (.const (.int .i64 1))), none⟩, ⟨(some 11), (.mov (.tmp 83)), none⟩])))))) (.seq (.seq (.ops [⟨(some 126), (.mov (.tmp 9)), none⟩, ⟨(some 127), (.call (.func 9) [(.tmp 126)]), none⟩, ⟨(some 128), (.cmp .neq (.tmp 127) (.const (.int .i64 0))), none⟩, ⟨(some 129), (.mov (.tmp 128)), none⟩, ⟨(some 130), (.mov (.tmp 10)), (some (129, false))⟩, ⟨(some 131), (.call (.func 9) [(.tmp 130)]), (some (129, false))⟩, ⟨(some 132), (.cmp .neq (.tmp 131) (.const (.int .i64 0))), (some (129, false))⟩, ⟨(some 133), (.pick (.tmp 129) (.const (.bool true)) (.tmp 132)), none⟩]) (.cond (.tmp 133) (.seq (.ops [⟨(some 2), (.mov (.const (.bool true))), none⟩]) .ret) .skip)) (.seq (.ops [⟨(some 135), (.mov (.tmp 7)), none⟩, ⟨(some 136), (.call (.func 10) [(.tmp 135)]), none⟩, ⟨(some 134), (.mov (.tmp 136)), none⟩, ⟨(some 137), (.extract (.tmp 134) 0), none⟩, ⟨(some 138), (.extract (.tmp 134) 1), none⟩, ⟨(some 12), (.mov (.tmp 137)), none⟩, ⟨(some 13), (.mov (.tmp 138)), none⟩]) (.seq (.ops [⟨(some 140), (.mov (.tmp 8)), none⟩, ⟨(some 141), (.call (.func 10) [(.tmp 140)]), none⟩, ⟨(some 139), (.mov (.tmp 141)), none⟩, ⟨(some 142), (.extract (.tmp 139) 0), none⟩, ⟨(some 143), (.extract (.tmp 139) 1), none⟩, ⟨(some 14), (.mov (.tmp 142)), none⟩, ⟨(some 15), (.mov (.tmp 143)), none⟩]) (.seq (.ops [⟨(some 145), (.mov (.tmp 9)), none⟩, ⟨(some 146), (.call (.func 10) [(.tmp 145)]), none⟩, ⟨(some 144), (.mov (.tmp 146)), none⟩, ⟨(some 147), (.extract (.tmp 144) 0), none⟩, ⟨(some 148), (.extract (.tmp 144) 1), none⟩, ⟨(some 16), (.mov (.tmp 147)), none⟩, ⟨(some 17), (.mov (.tmp 148)), none⟩]) (.seq (.ops [⟨(some 150), (.mov (.tmp 10)), none⟩, ⟨(some 151), (.call (.func 10) [(.tmp 150)]), none⟩, ⟨(some 149), (.mov (.tmp 151)), none⟩, ⟨(some 152), (.extract (.tmp 149) 0), none⟩, ⟨(some 153), (.extract (.tmp 149) 1), none⟩, ⟨(some 18), (.mov (.tmp 152)), none⟩, ⟨(some 19), (.mov (.tmp 153)), none⟩]) (.seq (.ops [⟨(some 154), (.mov (.tmp 0)), none⟩, ⟨(some 155), (.len (.tmp 154)), none⟩, ⟨(some 156), (.arith .sub (.tmp 155) (.const (.int .i64 1))), none⟩, ⟨(some 20), (.mov (.tmp 156)), none⟩]) (.seq (.seq (.ops [⟨(some 157), (.mov (.tmp 13)), none⟩, ⟨(some 158), (.cmp .neq (.tmp 157) (.const (.int .i64 0))), none⟩, ⟨(some 159), (.mov (.tmp 158)), none⟩, ⟨(some 160), (.mov (.tmp 15)), (some (159, false))⟩, ⟨(some 161), (.cmp .neq (.tmp 160) (.const (.int .i64 0))), (some (159, false))⟩, ⟨(some 162), (.pick (.tmp 159) (.const (.bool true)) (.tmp 161)), none⟩, ⟨(some 163), (.mov (.tmp 162)), none⟩, ⟨(some 164), (.mov (.tmp 17)), (some (163, false))⟩, ⟨(some 165), (.cmp .neq (.tmp 164) (.const (.int .i64 0))), (some (163, false))⟩, ⟨(some 166), (.pick (.tmp 163) (.const (.bool true)) (.tmp 165)), none⟩, ⟨(some 167), (.mov (.tmp 166)), none⟩, ⟨(some 168), (.mov (.tmp 19)), (some (167, false))⟩, ⟨(some 169), (.cmp .neq (.tmp 168) (.const (.int .i64 0))), (some (167, false))⟩, ⟨(some 170), (.pick (.tmp 167) (.const (.bool true)) (.tmp 169)), none⟩, ⟨(some 171), (.mov (.tmp 170)), none⟩, ⟨(some 172), (.mov (.tmp 12)), (some (171, false))⟩, ⟨(some 173), (.len (.tmp 172)), (some (171, false))⟩, ⟨(some 174), (.mov (.tmp 20)), (some (171, false))⟩, ⟨(some 175), (.cmp .neq (.tmp 173) (.tmp 174)), (some (171, false))⟩, ⟨(some 176), (.pick (.tmp 171) (.const (.bool true)) (.tmp 175)), none⟩, ⟨(some 177), (.mov (.tmp 176)), none⟩, ⟨(some 178), (.mov (.tmp 14)), (some (177, false))⟩, ⟨(some 179), (.len (.tmp 178)), (some (177, false))⟩, ⟨(some 180), (.mov (.tmp 20)), (some (177, false))⟩, ⟨(some 181), (.cmp .neq (.tmp 179) (.tmp 180)), (some (177, false))⟩, ⟨(some 182), (.pick (.tmp 177) (.const (.bool true)) (.tmp 181)), none⟩, ⟨(some 183), (.mov (.tmp 182)), none⟩, ⟨(some 184), (.mov (.tmp 16)), (some (183, false))⟩, ⟨(some 185), (.len (.tmp 184)), (some (183, false))⟩, ⟨(some 186), (.mov (.tmp 20)), (some (183, false))⟩, ⟨(some 187), (.cmp .neq (.tmp 185) (.tmp 186)), (some (183, false))⟩, ⟨(some 188), (.pick (.tmp 183) (.const (.bool true)) (.tmp 187)), none⟩, ⟨(some 189), (.mov (.tmp 188)), none⟩, ⟨(some 190), (.mov (.tmp 18)), (some (189, false))⟩, ⟨(some 191), (.len (.tmp 190)), (some (189, false))⟩, ⟨(some 192), (.mov (.tmp 20)), (some (189, false))⟩, ⟨(some 193), (.cmp .neq (.tmp 191) (.tmp 192)), (some (189, false))⟩, ⟨(some 194), (.pick (.tmp 189) (.const (.bool true)) (.tmp 193)), none⟩]) (.cond (.tmp 194) (.seq (.ops [⟨(some 2), (.mov (.const (.bool false))), none⟩]) .ret) .skip)) (.seq (.seq (.ops [⟨(some 21), (.mov (.const (.int .i64 0))), none⟩]) (.block 2 (.loop (.seq (.seq (.ops [⟨(some 195), (.mov (.tmp 21)), none⟩, ⟨(some 196), (.mov (.tmp 20)), none⟩, ⟨(some 197), (.cmp .lss (.tmp 195) (.tmp 196)), none⟩]) (.cond (.tmp 197) .skip (.exit 2))) (.seq (.block 3 (.seq (.draw [(⟨(some 200), (.mov (.tmp 16)), none⟩, false), (⟨(some 201), (.mov (.tmp 21)), none⟩, false), (⟨(some 202), (.idxAddr 1 (.tmp 200) (.tmp 201)), none⟩, false), (⟨(some 203), (.load (.tmp 202)), none⟩, false), (⟨(some 204), (.mov (.tmp 14)), none⟩, false), (⟨(some 205), (.mov (.tmp 21)), none⟩, false), (⟨(some 206), (.idxAddr 1 (.tmp 204) (.tmp 205)), none⟩, false), (⟨(some 207), (.load (.tmp 206)), none⟩, false), (⟨(some 208), (.mov (.tmp 12)), none⟩, false), (⟨(some 209), (.mov (.tmp 21)), none⟩, false), (⟨(some 210), (.idxAddr 1 (.tmp 208) (.tmp 209)), none⟩, false), (⟨(some 211), (.load (.tmp 210)), none⟩, false), (⟨(some 212), (.arith .add (.tmp 207) (.tmp 211)), none⟩, false), (⟨(some 213), (.cmp .neq (.tmp 203) (.tmp 212)), none⟩, false), (⟨(some 214), (.mov (.tmp 213)), none⟩, false), (⟨(some 215), (.mov (.tmp 18)), (some (214, false))⟩, false), (⟨(some 216), (.mov (.tmp 21)), (some (214, false))⟩, false), (⟨(some 217), (.idxAddr 1 (.tmp 215) (.tmp 216)), (some (214, false))⟩, false), (⟨(some 218), (.load (.tmp 217)), (some (214, false))⟩, false), (⟨(some 219), (.mov (.tmp 14)), (some (214, false))⟩, false), (⟨(some 220), (.mov (.tmp 21)), (some (214, false))⟩, false), (⟨(some 221), (.idxAddr 1 (.tmp 219) (.tmp 220)), (some (214, false))⟩, false), (⟨(some 222), (.load (.tmp 221)), (some (214, false))⟩, false), (⟨(some 223), (.mov (.tmp 12)), (some (214, false))⟩, false), (⟨(some 224), (.mov (.tmp 21)), (some (214, false))⟩, false), (⟨(some 225), (.idxAddr 1 (.tmp 223) (.tmp 224)), (some (214, false))⟩, false), (⟨(some 226), (.load (.tmp 225)), (some (214, false))⟩, false), (⟨(some 227), (.arith .sub (.tmp 222) (.tmp 226)), (some (214, false))⟩, false), (⟨(some 228), (.cmp .neq (.tmp 218) (.tmp 227)), (some (214, false))⟩, false), (⟨(some 229), (.pick (.tmp 214) (.const (.bool true)) (.tmp 228)), none⟩, false)]) (.cond (.tmp 229) (.seq (.ops [⟨(some 2), (.mov (.const (.bool false))), none⟩]) .ret) .skip))) (.ops [⟨(some 198), (.mov (.tmp 21)), none⟩, ⟨(some 199), (.arith .add (.tmp 198) (.const (.int .i64 1))), none⟩, ⟨(some 21), (.mov (.tmp 199)), none⟩])))))) (.seq (.ops [⟨(some 231), (.mov (.tmp 3)), none⟩, ⟨(some 232), (.idxAddr 2 (.tmp 231) (.const (.int .i64 0))), none⟩, ⟨(some 233), (.fieldAddr 0 (.tmp 232)), none⟩, ⟨(some 234), (.load (.tmp 233)), none⟩, ⟨(some 235), (.mov (.tmp 16)), none⟩, ⟨(some 236), (.call (.func 11) [(.tmp 234), (.tmp 235)]), none⟩, ⟨(some 230), (.mov (.tmp 236)), none⟩, ⟨(some 237), (.extract (.tmp 230) 0), none⟩, ⟨(some 238), (.extract (.tmp 230) 1), none⟩, ⟨(some 22), (.mov (.tmp 237)), none⟩, ⟨(some 23), (.mov (.tmp 238)), none⟩]) (.seq (.ops [⟨(some 240), (.mov (.tmp 3)), none⟩, ⟨(some 241), (.idxAddr 2 (.tmp 240) (.const (.int .i64 0))), none⟩, ⟨(some 242), (.fieldAddr 1 (.tmp 241)), none⟩, ⟨(some 243), (.load (.tmp 242)), none⟩, ⟨(some 244), (.mov (.tmp 18)), none⟩, ⟨(some 245), (.call (.func 11) [(.tmp 243), (.tmp 244)]), none⟩, ⟨(some 239), (.mov (.tmp 245)), none⟩, ⟨(some 246), (.extract (.tmp 239) 0), none⟩, ⟨(some 247), (.extract (.tmp 239) 1), none⟩, ⟨(some 24), (.mov (.tmp 246)), none⟩, ⟨(some 25), (.mov (.tmp 247)), none⟩]) (.seq (.seq (.ops [⟨(some 248), (.mov (.tmp 23)), none⟩, ⟨(some 249), (.cmp .neq (.tmp 248) (.const (.int .i64 0))), none⟩, ⟨(some 250), (.mov (.tmp 249)), none⟩, ⟨(some 251), (.mov (.tmp 25)), (some (250, false))⟩, ⟨(some 252), (.cmp .neq (.tmp 251) (.const (.int .i64 0))), (some (250, false))⟩, ⟨(some 253), (.pick (.tmp 250) (.const (.bool true)) (.tmp 252)), none⟩, ⟨(some 254), (.mov (.tmp 253)), none⟩, ⟨(some 255), (.mov (.tmp 22)), (some (254, false))⟩, ⟨(some 256), (.len (.tmp 255)), (some (254, false))⟩, ⟨(some 257), (.mov (.tmp 0)), (some (254, false))⟩, ⟨(some 258), (.len (.tmp 257)), (some (254, false))⟩, ⟨(some 259), (.cmp .neq (.tmp 256) (.tmp 258)), (some (254, false))⟩, ⟨(some 260), (.pick (.tmp 254) (.const (.bool true)) (.tmp 259)), none⟩, ⟨(some 261), (.mov (.tmp 260)), none⟩, ⟨(some 262), (.mov (.tmp 24)), (some (261, false))⟩, ⟨(some 263), (.len (.tmp 262)), (some (261, false))⟩, ⟨(some 264), (.mov (.tmp 0)), (some (261, false))⟩, ⟨(some 265), (.len (.tmp 264)), (some (261, false))⟩, ⟨(some 266), (.cmp .neq (.tmp 263) (.tmp 265)), (some (261, false))⟩, ⟨(some 267), (.pick (.tmp 261) (.const (.bool true)) (.tmp 266)), none⟩]) (.cond (.tmp 267) (.seq (.ops [⟨(some 2), (.mov (.const (.bool false))), none⟩]) .ret) .skip)) (.seq (.ops [⟨(some 26), (.mov (.const (.slice none 0 0))), none⟩]) (.seq (.seq (.ops [⟨(some 27), (.mov (.const (.int .i64 0))), none⟩]) (.block 4 (.loop (.seq (.seq (.ops [⟨(some 268), (.mov (.tmp 27)), none⟩, ⟨(some 269), (.mov (.tmp 22)), none⟩, ⟨(some 270), (.len (.tmp 269)), none⟩, ⟨(some 271), (.cmp .lss (.tmp 268) (.tmp 270)), none⟩]) (.cond (.tmp 271) .skip (.exit 4))) (.seq (.block 5 (.draw [(⟨(some 274), (.mov (.tmp 26)), none⟩, false), (⟨(some 275), (.mov (.tmp 22)), none⟩, false), (⟨(some 276), (.mov (.tmp 27)), none⟩, false), (⟨(some 277), (.idxAddr 1 (.tmp 275) (.tmp 276)), none⟩, false), (⟨(some 278), (.load (.tmp 277)), none⟩, false), (⟨(some 279), (.mov (.tmp 24)), none⟩, false), (⟨(some 280), (.mov (.tmp 27)), none⟩, false), (⟨(some 281), (.idxAddr 1 (.tmp 279) (.tmp 280)), none⟩, false), (⟨(some 282), (.load (.tmp 281)), none⟩, false), (⟨(some 283), (.build [(.int .i64 0), (.int .i64 0)] [(0, (1, (.tmp 278))), (1, (1, (.tmp 282)))]), none⟩, false), (⟨(some 284), (.buildSlice 2 1 [(.int .i64 0), (.int .i64 0)] [(0, (2, (.tmp 283)))]), none⟩, false), (⟨(some 285), (.append 2 16 (.tmp 274) (.tmp 284)), none⟩, false), (⟨(some 26), (.mov (.tmp 285)), none⟩, false)])) (.ops [⟨(some 272), (.mov (.tmp 27)), none⟩, ⟨(some 273), (.arith .add (.tmp 272) (.const (.int .i64 1))), none⟩, ⟨(some 27), (.mov (.tmp 273)), none⟩])))))) (.seq (.ops [⟨(some 287), (.mov (.tmp 26)), none⟩, ⟨(some 288), (.call (.func 12) [(.tmp 287)]), none⟩, ⟨(some 286), (.mov (.tmp 288)), none⟩, ⟨(some 289), (.extract (.tmp 286) 0), none⟩, ⟨(some 290), (.extract (.tmp 286) 1), none⟩, ⟨(some 28), (.mov (.tmp 289)), none⟩, ⟨(some 29), (.mov (.tmp 290)), none⟩]) (.seq (.seq (.ops [⟨(some 291), (.mov (.tmp 29)), none⟩, ⟨(some 292), (.cmp .neq (.tmp 291) (.const (.int .i64 0))), none⟩, ⟨(some 293), (.mov (.tmp 292)), none⟩, ⟨(some 294), (.mov (.tmp 28)), (some (293, false))⟩, ⟨(some 295), (.len (.tmp 294)), (some (293, false))⟩, ⟨(some 296), (.mov (.tmp 0)), (some (293, false))⟩, ⟨(some 297), (.len (.tmp 296)), (some (293, false))⟩, ⟨(some 298), (.cmp .neq (.tmp 295) (.tmp 297)), (some (293, false))⟩, ⟨(some 299), (.pick (.tmp 293) (.const (.bool true)) (.tmp 298)), none⟩]) (.cond (.tmp 299) (.seq (.ops [⟨(some 2), (.mov (.const (.bool false))), none⟩]) .ret) .skip)) (.seq (.seq (.ops [⟨(some 30), (.mov (.const (.int .i64 0))), none⟩]) (.block 6 (.loop (.seq (.seq (.ops [⟨(some 300), (.mov (.tmp 30)), none⟩, ⟨(some 301), (.mov (.tmp 28)), none⟩, ⟨(some 302), (.len (.tmp 301)), none⟩, ⟨(some 303), (.cmp .lss (.tmp 300) (.tmp 302)), none⟩]) (.cond (.tmp 303) .skip (.exit 6))) (.seq (.block 7 (.seq (.draw [(⟨(some 306), (.mov (.tmp 28)), none⟩, false), (⟨(some 307), (.mov (.tmp 30)), none⟩, false), (⟨(some 308), (.idxAddr 2 (.tmp 306) (.tmp 307)), none⟩, false), (⟨(some 309), (.loadN 2 (.tmp 308)), none⟩, false), (⟨(some 310), (.mov (.tmp 0)), none⟩, false), (⟨(some 311), (.mov (.tmp 30)), none⟩, false), (⟨(some 312), (.idxAddr 2 (.tmp 310) (.tmp 311)), none⟩, false), (⟨(some 313), (.loadN 2 (.tmp 312)), none⟩, false), (⟨(some 314), (.eqAgg true [(0, false), (1, false)] (.tmp 309) (.tmp 313)), none⟩, false)]) (.cond (.tmp 314) (.seq (.ops [⟨(some 2), (.mov (.const (.bool false))), none⟩]) .ret) .skip))) (.ops [⟨(some 304), (.mov (.tmp 30)), none⟩, ⟨(some 305), (.arith .add (.tmp 304) (.const (.int .i64 1))), none⟩, ⟨(some 30), (.mov (.tmp 305)), none⟩])))))) (.seq (.ops [⟨(some 2), (.mov (.const (.bool true))), none⟩]) .ret))))))))))))))))))))))))), 315, [(.tmp 2)]⟩
theorem c3 : compileFn Go.Proofs.Try.prog Go.Proofs.Try.f3 = some R3 := by kernel_rfl
theorem n3 : R3.ntmps = 315 := rfl
theorem a3 {args : List Value} {H : AHeap} {Q : Value → AHeap → Prop} (h : AWP Go.Proofs.Try.prog none R3.code (Fin R3 Q) (args ++ List.replicate (R3.ntmps - args.length) undef) H) : ACall Go.Proofs.Try.prog 3 args H Q := acall_intro mo Go.Proofs.Try.func3 c3 h

def R4 : RFunc :=
  ⟨(.seq (.ops [⟨(some 0), (.mov (.const (.bool false))), none⟩]) (.seq (.ops [⟨(some 7), (.call (.func 14) []), none⟩, ⟨(some 8), (.call (.func 13) [(.tmp 7)]), none⟩, ⟨(some 6), (.mov (.tmp 8)), none⟩, ⟨(some 9), (.extract (.tmp 6) 0), none⟩, ⟨(some 10), (.extract (.tmp 6) 1), none⟩, ⟨(some 11), (.extract (.tmp 6) 2), none⟩, ⟨(some 1), (.mov (.tmp 9)), none⟩, ⟨(some 2), (.mov (.tmp 10)), none⟩, ⟨(some 3), (.mov (.tmp 11)), none⟩]) (.seq (.ops [⟨(some 13), (.build [(.int .i64 0), (.int .i64 0)] [(0, (1, (.const (.int .i64 11)))), (1, (1, (.const (.int .i64 5))))]), none⟩, ⟨(some 14), (.buildSlice 2 1 [(.int .i64 0), (.int .i64 0)] [(0, (2, (.tmp 13)))]), none⟩, ⟨(some 15), (.call (.func 12) [(.tmp 14)]), none⟩, ⟨(some 12), (.mov (.tmp 15)), none⟩, ⟨(some 16), (.extract (.tmp 12) 0), none⟩, ⟨(some 17), (.extract (.tmp 12) 1), none⟩, ⟨(some 4), (.mov (.tmp 16)), none⟩, ⟨(some 5), (.mov (.tmp 17)), none⟩]) (.seq (.ops [⟨(some 18), (.mov (.tmp 3)), none⟩, ⟨(some 19), (.cmp .eql (.tmp 18) (.const (.int .i64 0))), none⟩, ⟨(some 20), (.mov (.tmp 19)), none⟩, ⟨(some 21), (.mov (.tmp 2)), (some (20, true))⟩, ⟨(some 22), (.cmp .eql (.tmp 21) (.const (.int .i64 5))), (some (20, true))⟩, ⟨(some 23), (.pick (.tmp 20) (.tmp 22) (.const (.bool false))), none⟩, ⟨(some 24), (.mov (.tmp 23)), none⟩, ⟨(some 25), (.mov (.tmp 1)), (some (24, true))⟩, ⟨(some 26), (.buildSlice 1 3 [(.int .i64 0), (.int .i64 0), (.int .i64 0)] [(0, (1, (.const (.int .i64 1)))), (1, (1, (.const (.int .i64 2)))), (2, (1, (.const (.int .i64 1))))]), (some (24, true))⟩, ⟨(some 27), (.call (.func 15) [(.tmp 25), (.tmp 26)]), (some (24, true))⟩, ⟨(some 28), (.pick (.tmp 24) (.tmp 27) (.const (.bool false))), none⟩, ⟨(some 29), (.mov (.tmp 28)), none⟩, ⟨(some 30), (.mov (.tmp 5)), (some (29, true))⟩, ⟨(some 31), (.cmp .eql (.tmp 30) (.const (.int .i64 0))), (some (29, true))⟩, ⟨(some 32), (.pick (.tmp 29) (.tmp 31) (.const (.bool false))), none⟩, ⟨(some 33), (.mov (.tmp 32)), none⟩, ⟨(some 34), (.mov (.tmp 4)), (some (33, true))⟩, ⟨(some 35), (.len (.tmp 34)), (some (33, true))⟩, ⟨(some 36), (.cmp .eql (.tmp 35) (.const (.int .i64 1))), (some (33, true))⟩, ⟨(some 37), (.pick (.tmp 33) (.tmp 36) (.const (.bool false))), none⟩, ⟨(some 38), (.mov (.tmp 37)), none⟩, ⟨(some 39), (.mov (.tmp 4)), (some (38, true))⟩, ⟨(some 40), (.idxAddr 2 (.tmp 39) (.const (.int .i64 0))), (some (38, true))⟩, ⟨(some 41), (.loadN 2 (.tmp 40)), (some (38, true))⟩, ⟨(some 42), (.build [(.int .i64 0), (.int .i64 0)] [(0, (1, (.const (.int .i64 3)))), (1, (1, (.const (.int .i64 8))))]), (some (38, true))⟩, ⟨(some 43), (.eqAgg false [(0, false), (1, false)] (.tmp 41) (.tmp 42)), (some (38, true))⟩, ⟨(some 44), (.pick (.tmp 38) (.tmp 43) (.const (.bool false))), none⟩, ⟨(some 0), (.mov (.tmp 44)), none⟩]) .ret)))), 45, [(.tmp 0)]⟩
theorem c4 : compileFn Go.Proofs.Try.prog Go.Proofs.Try.f4 = some R4 := by kernel_rfl
theorem n4 : R4.ntmps = 45 := rfl
theorem a4 {args : List Value} {H : AHeap} {Q : Value → AHeap → Prop} (h : AWP Go.Proofs.Try.prog none R4.code (Fin R4 Q) (args ++ List.replicate (R4.ntmps - args.length) undef) H) : ACall Go.Proofs.Try.prog 4 args H Q := acall_intro mo Go.Proofs.Try.func4 c4 h

def R5 : RFunc :=
  ⟨(.seq (.ops [⟨(some 2), (.mov (.const (.int .i64 0))), none⟩]) (.seq (.seq (.ops [⟨(some 5), (.mov (.tmp 0)), none⟩, ⟨(some 6), (.len (.tmp 5)), none⟩, ⟨(some 7), (.cmp .gtr (.tmp 6) (.const (.int .i64 200))), none⟩]) (.cond (.tmp 7) (.seq (.ops [⟨(some 2), (.mov (.const (.int .i64 8))), none⟩]) .ret) .skip)) (.seq (.seq (.ops [⟨(some 3), (.mov (.const (.int .i64 0))), none⟩]) (.block 0 (.loop (.seq (.seq (.ops [⟨(some 8), (.mov (.tmp 3)), none⟩, ⟨(some 9), (.mov (.tmp 0)), none⟩, ⟨(some 10), (.len (.tmp 9)), none⟩, ⟨(some 11), (.cmp .lss (.tmp 8) (.tmp 10)), none⟩]) (.cond (.tmp 11) .skip (.exit 0))) (.seq (.block 1 (.seq (.seq (.draw [(⟨(some 14), (.mov (.tmp 0)), none⟩, false), (⟨(some 15), (.mov (.tmp 3)), none⟩, false), (⟨(some 16), (.idxAddr 2 (.tmp 14) (.tmp 15)), none⟩, false), (⟨(some 17), (.fieldAddr 0 (.tmp 16)), none⟩, false), (⟨(some 18), (.load (.tmp 17)), none⟩, false), (⟨(some 19), (.mov (.tmp 0)), none⟩, false), (⟨(some 20), (.mov (.tmp 3)), none⟩, false), (⟨(some 21), (.idxAddr 2 (.tmp 19) (.tmp 20)), none⟩, false), (⟨(some 22), (.fieldAddr 1 (.tmp 21)), none⟩, false), (⟨(some 23), (.load (.tmp 22)), none⟩, false), (⟨(some 24), (.buildSlice 1 2 [(.int .i64 0), (.int .i64 0)] [(0, (1, (.tmp 18))), (1, (1, (.tmp 23)))]), none⟩, false), (⟨(some 25), (.call (.func 9) [(.tmp 24)]), none⟩, false), (⟨(some 4), (.mov (.tmp 25)), none⟩, false)]) (.seq (.ops [⟨(some 26), (.mov (.tmp 4)), none⟩, ⟨(some 27), (.cmp .neq (.tmp 26) (.const (.int .i64 0))), none⟩]) (.cond (.tmp 27) (.seq (.ops [⟨(some 28), (.mov (.tmp 4)), none⟩, ⟨(some 2), (.mov (.tmp 28)), none⟩]) .ret) .skip))) (.seq (.draw [(⟨(some 29), (.mov (.tmp 0)), none⟩, false), (⟨(some 30), (.mov (.tmp 3)), none⟩, false), (⟨(some 31), (.idxAddr 2 (.tmp 29) (.tmp 30)), none⟩, false), (⟨(some 32), (.fieldAddr 0 (.tmp 31)), none⟩, false), (⟨(some 33), (.load (.tmp 32)), none⟩, false), (⟨(some 34), (.mov (.tmp 0)), none⟩, false), (⟨(some 35), (.mov (.tmp 3)), none⟩, false), (⟨(some 36), (.idxAddr 2 (.tmp 34) (.tmp 35)), none⟩, false), (⟨(some 37), (.fieldAddr 1 (.tmp 36)), none⟩, false), (⟨(some 38), (.load (.tmp 37)), none⟩, false), (⟨(some 39), (.cmp .gtr (.tmp 33) (.tmp 38)), none⟩, false)]) (.cond (.tmp 39) (.seq (.ops [⟨(some 2), (.mov (.const (.int .i64 9))), none⟩]) .ret) .skip)))) (.ops [⟨(some 12), (.mov (.tmp 3)), none⟩, ⟨(some 13), (.arith .add (.tmp 12) (.const (.int .i64 1))), none⟩, ⟨(some 3), (.mov (.tmp 13)), none⟩])))))) (.seq (.ops [⟨(some 2), (.mov (.const (.int .i64 0))), none⟩]) .ret)))), 40, [(.tmp 2)]⟩
theorem c5 : compileFn Go.Proofs.Try.prog Go.Proofs.Try.f5 = some R5 := by kernel_rfl
theorem n5 : R5.ntmps = 40 := rfl
theorem a5 {args : List Value} {H : AHeap} {Q : Value → AHeap → Prop} (h : AWP Go.Proofs.Try.prog none R5.code (Fin R5 Q) (args ++ List.replicate (R5.ntmps - args.length) undef) H) : ACall Go.Proofs.Try.prog 5 args H Q := acall_intro mo Go.Proofs.Try.func5 c5 h

def R6 : RFunc :=
  ⟨(.seq (.ops [⟨(some 2), (.mov (.const (.slice none 0 0))), none⟩, ⟨(some 3), (.mov (.const (.int .i64 0))), none⟩]) (.seq (.ops [⟨(some 4), (.mov (.tmp 0)), none⟩, ⟨(some 5), (.call (.func 16) [(.tmp 4), (.func 17)]), none⟩, ⟨(some 6), (.extract (.tmp 5) 0), none⟩, ⟨(some 7), (.extract (.tmp 5) 1), none⟩, ⟨(some 2), (.mov (.tmp 6)), none⟩, ⟨(some 3), (.mov (.tmp 7)), none⟩]) .ret)), 8, [(.tmp 2), (.tmp 3)]⟩
theorem c6 : compileFn Go.Proofs.Try.prog Go.Proofs.Try.f6 = some R6 := by kernel_rfl
theorem n6 : R6.ntmps = 8 := rfl
theorem a6 {args : List Value} {H : AHeap} {Q : Value → AHeap → Prop} (h : AWP Go.Proofs.Try.prog none R6.code (Fin R6 Q) (args ++ List.replicate (R6.ntmps - args.length) undef) H) : ACall Go.Proofs.Try.prog 6 args H Q := acall_intro mo Go.Proofs.Try.func6 c6 h

def R7 : RFunc :=
  ⟨(.seq (.ops [⟨(some 2), (.mov (.const (.slice none 0 0))), none⟩]) (.seq (.ops [⟨(some 3), (.buildSlice 2 0 [] []), none⟩, ⟨(some 4), (.mov (.tmp 0)), none⟩, ⟨(some 5), (.append 2 16 (.tmp 3) (.tmp 4)), none⟩, ⟨(some 2), (.mov (.tmp 5)), none⟩]) .ret)), 6, [(.tmp 2)]⟩
theorem c7 : compileFn Go.Proofs.Try.prog Go.Proofs.Try.f7 = some R7 := by kernel_rfl
theorem n7 : R7.ntmps = 6 := rfl
theorem a7 {args : List Value} {H : AHeap} {Q : Value → AHeap → Prop} (h : AWP Go.Proofs.Try.prog none R7.code (Fin R7 Q) (args ++ List.replicate (R7.ntmps - args.length) undef) H) : ACall Go.Proofs.Try.prog 7 args H Q := acall_intro mo Go.Proofs.Try.func7 c7 h

def R8 : RFunc :=
  ⟨(.seq (.ops [⟨(some 2), (.mov (.const (.slice none 0 0))), none⟩, ⟨(some 3), (.mov (.const (.int .i64 0))), none⟩]) (.seq (.ops [⟨(some 4), (.mov (.tmp 0)), none⟩, ⟨(some 5), (.call (.func 18) [(.tmp 4), (.func 19)]), none⟩, ⟨(some 6), (.extract (.tmp 5) 0), none⟩, ⟨(some 7), (.extract (.tmp 5) 1), none⟩, ⟨(some 2), (.mov (.tmp 6)), none⟩, ⟨(some 3), (.mov (.tmp 7)), none⟩]) .ret)), 8, [(.tmp 2), (.tmp 3)]⟩
theorem c8 : compileFn Go.Proofs.Try.prog Go.Proofs.Try.f8 = some R8 := by kernel_rfl
theorem n8 : R8.ntmps = 8 := rfl
theorem a8 {args : List Value} {H : AHeap} {Q : Value → AHeap → Prop} (h : AWP Go.Proofs.Try.prog none R8.code (Fin R8 Q) (args ++ List.replicate (R8.ntmps - args.length) undef) H) : ACall Go.Proofs.Try.prog 8 args H Q := acall_intro mo Go.Proofs.Try.func8 c8 h

def R9 : RFunc :=
  ⟨(.seq (.ops [⟨(some 2), (.mov (.const (.int .i64 0))), none⟩]) (.seq (.seq (.ops [⟨(some 4), (.mov (.tmp 0)), none⟩, ⟨(some 5), (.len (.tmp 4)), none⟩, ⟨(some 6), (.cmp .gtr (.tmp 5) (.const (.int .i64 200))), none⟩]) (.cond (.tmp 6) (.seq (.ops [⟨(some 2), (.mov (.const (.int .i64 8))), none⟩]) .ret) .skip)) (.seq (.seq (.ops [⟨(some 3), (.mov (.const (.int .i64 0))), none⟩]) (.block 0 (.loop (.seq (.seq (.ops [⟨(some 7), (.mov (.tmp 3)), none⟩, ⟨(some 8), (.mov (.tmp 0)), none⟩, ⟨(some 9), (.len (.tmp 8)), none⟩, ⟨(some 10), (.cmp .lss (.tmp 7) (.tmp 9)), none⟩]) (.cond (.tmp 10) .skip (.exit 0))) (.seq (.block 1 (.seq (.ops [⟨(some 13), (.mov (.tmp 0)), none⟩, ⟨(some 14), (.mov (.tmp 3)), none⟩, ⟨(some 15), (.idxAddr 1 (.tmp 13) (.tmp 14)), none⟩, ⟨(some 16), (.load (.tmp 15)), none⟩, ⟨(some 17), (.call (.func 20) [(.tmp 16), (.const (.int .i64 (-1000000))), (.const (.int .i64 1000000))]), none⟩, ⟨(some 18), (.not (.tmp 17)), none⟩]) (.cond (.tmp 18) (.seq (.ops [⟨(some 2), (.mov (.const (.int .i64 2))), none⟩]) .ret) .skip))) (.ops [⟨(some 11), (.mov (.tmp 3)), none⟩, ⟨(some 12), (.arith .add (.tmp 11) (.const (.int .i64 1))), none⟩, ⟨(some 3), (.mov (.tmp 12)), none⟩])))))) (.seq (.ops [⟨(some 2), (.mov (.const (.int .i64 0))), none⟩]) .ret)))), 19, [(.tmp 2)]⟩
theorem c9 : compileFn Go.Proofs.Try.prog Go.Proofs.Try.f9 = some R9 := by kernel_rfl
theorem n9 : R9.ntmps = 19 := rfl
theorem a9 {args : List Value} {H : AHeap} {Q : Value → AHeap → Prop} (h : AWP Go.Proofs.Try.prog none R9.code (Fin R9 Q) (args ++ List.replicate (R9.ntmps - args.length) undef) H) : ACall Go.Proofs.Try.prog 9 args H Q := acall_intro mo Go.Proofs.Try.func9 c9 h

def R10 : RFunc :=
  ⟨(.seq (.ops [⟨(some 2), (.mov (.const (.slice none 0 0))), none⟩, ⟨(some 3), (.mov (.const (.int .i64 0))), none⟩]) (.seq (.seq (.ops [⟨(some 8), (.mov (.tmp 0)), none⟩, ⟨(some 9), (.call (.func 22) [(.tmp 8)]), none⟩, ⟨(some 10), (.mov (.tmp 0)), none⟩, ⟨(some 11), (.len (.tmp 10)), none⟩, ⟨(some 12), (.cmp .gtr (.tmp 11) (.const (.int .i64 0))), none⟩, ⟨(some 13), (.call (.func 23) [(.tmp 12), (.const (.int .i64 10))]), none⟩, ⟨(some 14), (.buildSlice 1 2 [(.int .i64 0), (.int .i64 0)] [(0, (1, (.tmp 9))), (1, (1, (.tmp 13)))]), none⟩, ⟨(some 15), (.call (.func 21) [(.tmp 14)]), none⟩, ⟨(some 4), (.mov (.tmp 15)), none⟩]) (.seq (.ops [⟨(some 16), (.mov (.tmp 4)), none⟩, ⟨(some 17), (.cmp .neq (.tmp 16) (.const (.int .i64 0))), none⟩]) (.cond (.tmp 17) (.seq (.ops [⟨(some 18), (.mov (.tmp 4)), none⟩, ⟨(some 2), (.mov (.const (.slice none 0 0))), none⟩, ⟨(some 3), (.mov (.tmp 18)), none⟩]) .ret) .skip))) (.seq (.ops [⟨(some 5), (.mov (.const (.slice none 0 0))), none⟩]) (.seq (.seq (.ops [⟨(some 19), (.mov (.tmp 0)), none⟩, ⟨(some 20), (.slice 1 (.tmp 19) (some (.const (.int .i64 1))) none none), none⟩, ⟨(some 21), (.len (.tmp 20)), none⟩, ⟨(some 22), (.mov (.const (.int .i64 0))), none⟩]) (.block 0 (.loop (.seq (.ops [⟨(some 23), (.cmp .lss (.tmp 22) (.tmp 21)), none⟩]) (.seq (.cond (.tmp 23) .skip (.exit 0)) (.seq (.block 1 (.seq (.ops [⟨(some 24), (.mov (.tmp 22)), none⟩, ⟨(some 25), (.idxAddr 1 (.tmp 20) (.tmp 22)), none⟩, ⟨(some 26), (.load (.tmp 25)), none⟩, ⟨(some 6), (.mov (.tmp 24)), none⟩, ⟨(some 7), (.mov (.tmp 26)), none⟩]) (.ops [⟨(some 27), (.mov (.tmp 5)), none⟩, ⟨(some 28), (.mov (.tmp 7)), none⟩, ⟨(some 29), (.mov (.tmp 0)), none⟩, ⟨(some 30), (.mov (.tmp 6)), none⟩, ⟨(some 31), (.idxAddr 1 (.tmp 29) (.tmp 30)), none⟩, ⟨(some 32), (.load (.tmp 31)), none⟩, ⟨(some 33), (.arith .sub (.tmp 28) (.tmp 32)), none⟩, ⟨(some 34), (.buildSlice 1 1 [(.int .i64 0)] [(0, (1, (.tmp 33)))]), none⟩, ⟨(some 35), (.append 1 8 (.tmp 27) (.tmp 34)), none⟩, ⟨(some 5), (.mov (.tmp 35)), none⟩]))) (.ops [⟨(some 36), (.arith .add (.tmp 22) (.const (.int .i64 1))), none⟩, ⟨(some 22), (.mov (.tmp 36)), none⟩]))))))) (.seq (.ops [⟨(some 37), (.mov (.tmp 5)), none⟩, ⟨(some 2), (.mov (.tmp 37)), none⟩, ⟨(some 3), (.mov (.const (.int .i64 0))), none⟩]) .ret))))), 38, [(.tmp 2), (.tmp 3)]⟩
theorem c10 : compileFn Go.Proofs.Try.prog Go.Proofs.Try.f10 = some R10 := by kernel_rfl
theorem n10 : R10.ntmps = 38 := rfl
theorem a10 {args : List Value} {H : AHeap} {Q : Value → AHeap → Prop} (h : AWP Go.Proofs.Try.prog none R10.code (Fin R10 Q) (args ++ List.replicate (R10.ntmps - args.length) undef) H) : ACall Go.Proofs.Try.prog 10 args H Q := acall_intro mo Go.Proofs.Try.func10 c10 h

def R11 : RFunc :=
  ⟨(.seq (.ops [⟨(some 4), (.mov (.const (.slice none 0 0))), none⟩, ⟨(some 5), (.mov (.const (.int .i64 0))), none⟩]) (.seq (.seq (.ops [⟨(some 11), (.mov (.tmp 0)), none⟩, ⟨(some 12), (.call (.func 24) [(.tmp 11), (.const (.int .i64 1000000))]), none⟩, ⟨(some 13), (.call (.func 23) [(.tmp 12), (.const (.int .i64 2))]), none⟩, ⟨(some 14), (.mov (.tmp 1)), none⟩, ⟨(some 15), (.len (.tmp 14)), none⟩, ⟨(some 16), (.cmp .lss (.tmp 15) (.const (.int .i64 200))), none⟩, ⟨(some 17), (.call (.func 23) [(.tmp 16), (.const (.int .i64 8))]), none⟩, ⟨(some 18), (.buildSlice 1 2 [(.int .i64 0), (.int .i64 0)] [(0, (1, (.tmp 13))), (1, (1, (.tmp 17)))]), none⟩, ⟨(some 19), (.call (.func 21) [(.tmp 18)]), none⟩, ⟨(some 6), (.mov (.tmp 19)), none⟩]) (.seq (.ops [⟨(some 20), (.mov (.tmp 6)), none⟩, ⟨(some 21), (.cmp .neq (.tmp 20) (.const (.int .i64 0))), none⟩]) (.cond (.tmp 21) (.seq (.ops [⟨(some 22), (.mov (.tmp 6)), none⟩, ⟨(some 4), (.mov (.const (.slice none 0 0))), none⟩, ⟨(some 5), (.mov (.tmp 22)), none⟩]) .ret) .skip))) (.seq (.ops [⟨(some 23), (.mov (.tmp 0)), none⟩, ⟨(some 24), (.buildSlice 1 1 [(.int .i64 0)] [(0, (1, (.tmp 23)))]), none⟩, ⟨(some 7), (.mov (.tmp 24)), none⟩]) (.seq (.seq (.ops [⟨(some 25), (.mov (.tmp 1)), none⟩, ⟨(some 26), (.len (.tmp 25)), none⟩, ⟨(some 27), (.mov (.const (.int .i64 0))), none⟩]) (.block 0 (.loop (.seq (.ops [⟨(some 28), (.cmp .lss (.tmp 27) (.tmp 26)), none⟩]) (.seq (.cond (.tmp 28) .skip (.exit 0)) (.seq (.block 1 (.seq (.ops [⟨(some 29), (.mov (.tmp 27)), none⟩, ⟨(some 30), (.idxAddr 1 (.tmp 25) (.tmp 27)), none⟩, ⟨(some 31), (.load (.tmp 30)), none⟩, ⟨(some 8), (.mov (.tmp 29)), none⟩, ⟨(some 9), (.mov (.tmp 31)), none⟩]) (.seq (.seq (.ops [⟨(some 32), (.mov (.tmp 9)), none⟩, ⟨(some 33), (.call (.func 24) [(.tmp 32), (.const (.int .i64 2000000))]), none⟩, ⟨(some 34), (.not (.tmp 33)), none⟩]) (.cond (.tmp 34) (.seq (.ops [⟨(some 4), (.mov (.const (.slice none 0 0))), none⟩, ⟨(some 5), (.mov (.const (.int .i64 2))), none⟩]) .ret) .skip)) (.seq (.ops [⟨(some 35), (.mov (.tmp 7)), none⟩, ⟨(some 36), (.mov (.tmp 8)), none⟩, ⟨(some 37), (.idxAddr 1 (.tmp 35) (.tmp 36)), none⟩, ⟨(some 38), (.load (.tmp 37)), none⟩, ⟨(some 39), (.mov (.tmp 9)), none⟩, ⟨(some 40), (.arith .add (.tmp 38) (.tmp 39)), none⟩, ⟨(some 10), (.mov (.tmp 40)), none⟩]) (.seq (.seq (.ops [⟨(some 41), (.mov (.tmp 10)), none⟩, ⟨(some 42), (.call (.func 24) [(.tmp 41), (.const (.int .i64 1000000))]), none⟩, ⟨(some 43), (.not (.tmp 42)), none⟩]) (.cond (.tmp 43) (.seq (.ops [⟨(some 4), (.mov (.const (.slice none 0 0))), none⟩, ⟨(some 5), (.mov (.const (.int .i64 23))), none⟩]) .ret) .skip)) (.ops [⟨(some 44), (.mov (.tmp 7)), none⟩, ⟨(some 45), (.mov (.tmp 10)), none⟩, ⟨(some 46), (.buildSlice 1 1 [(.int .i64 0)] [(0, (1, (.tmp 45)))]), none⟩, ⟨(some 47), (.append 1 8 (.tmp 44) (.tmp 46)), none⟩, ⟨(some 7), (.mov (.tmp 47)), none⟩])))))) (.ops [⟨(some 48), (.arith .add (.tmp 27) (.const (.int .i64 1))), none⟩, ⟨(some 27), (.mov (.tmp 48)), none⟩]))))))) (.seq (.ops [⟨(some 49), (.mov (.tmp 7)), none⟩, ⟨(some 4), (.mov (.tmp 49)), none⟩, ⟨(some 5), (.mov (.const (.int .i64 0))), none⟩]) .ret))))), 50, [(.tmp 4), (.tmp 5)]⟩
theorem c11 : compileFn Go.Proofs.Try.prog Go.Proofs.Try.f11 = some R11 := by kernel_rfl
theorem n11 : R11.ntmps = 50 := rfl
theorem a11 {args : List Value} {H : AHeap} {Q : Value → AHeap → Prop} (h : AWP Go.Proofs.Try.prog none R11.code (Fin R11 Q) (args ++ List.replicate (R11.ntmps - args.length) undef) H) : ACall Go.Proofs.Try.prog 11 args H Q := acall_intro mo Go.Proofs.Try.func11 c11 h

def R12 : RFunc :=
  ⟨(.seq (.ops [⟨(some 2), (.mov (.const (.slice none 0 0))), none⟩, ⟨(some 3), (.mov (.const (.int .i64 0))), none⟩]) (.seq (.ops [⟨(some 4), (.mov (.tmp 0)), none⟩, ⟨(some 5), (.call (.func 25) [(.tmp 4), (.func 26)]), none⟩, ⟨(some 6), (.extract (.tmp 5) 0), none⟩, ⟨(some 7), (.extract (.tmp 5) 1), none⟩, ⟨(some 2), (.mov (.tmp 6)), none⟩, ⟨(some 3), (.mov (.tmp 7)), none⟩]) .ret)), 8, [(.tmp 2), (.tmp 3)]⟩
theorem c12 : compileFn Go.Proofs.Try.prog Go.Proofs.Try.f12 = some R12 := by kernel_rfl
theorem n12 : R12.ntmps = 8 := rfl
theorem a12 {args : List Value} {H : AHeap} {Q : Value → AHeap → Prop} (h : AWP Go.Proofs.Try.prog none R12.code (Fin R12 Q) (args ++ List.replicate (R12.ntmps - args.length) undef) H) : ACall Go.Proofs.Try.prog 12 args H Q := acall_intro mo Go.Proofs.Try.func12 c12 h

def R13 : RFunc :=
  ⟨(.seq (.ops [⟨(some 1), (.box (.tmp 0)), none⟩, ⟨(some 2), (.mov (.const (.slice none 0 0))), none⟩, ⟨(some 3), (.mov (.const (.int .i64 0))), none⟩, ⟨(some 4), (.mov (.const (.int .i64 0))), none⟩]) (.seq (.ops [⟨(some 10), (.loadN 2 (.tmp 1)), none⟩, ⟨(some 11), (.call (.func 27) [(.tmp 10)]), none⟩, ⟨(some 9), (.mov (.tmp 11)), none⟩, ⟨(some 12), (.extract (.tmp 9) 0), none⟩, ⟨(some 13), (.extract (.tmp 9) 1), none⟩, ⟨(some 5), (.new [(.slice none 0 0), (.int .i64 0)]), none⟩, ⟨none, (.store 2 (.tmp 5) (.tmp 12)), none⟩, ⟨(some 6), (.mov (.tmp 13)), none⟩]) (.seq (.seq (.ops [⟨(some 14), (.mov (.tmp 6)), none⟩, ⟨(some 15), (.cmp .neq (.tmp 14) (.const (.int .i64 0))), none⟩]) (.cond (.tmp 15) (.seq (.ops [⟨(some 16), (.mov (.tmp 6)), none⟩, ⟨(some 2), (.mov (.const (.slice none 0 0))), none⟩, ⟨(some 3), (.mov (.const (.int .i64 0))), none⟩, ⟨(some 4), (.mov (.tmp 16)), none⟩]) .ret) .skip)) (.seq (.ops [⟨(some 17), (.loadN 2 (.tmp 5)), none⟩, ⟨(some 18), (.call (.func 28) [(.tmp 17), (.func 29)]), none⟩, ⟨(some 7), (.mov (.tmp 18)), none⟩]) (.seq (.ops [⟨(some 19), (.mov (.tmp 7)), none⟩, ⟨(some 20), (.idxAddr 1 (.tmp 19) (.const (.int .i64 0))), none⟩, ⟨(some 21), (.load (.tmp 20)), none⟩, ⟨(some 22), (.call (.func 30) [(.tmp 21)]), none⟩, ⟨(some 8), (.mov (.tmp 22)), none⟩]) (.seq (.draw [(⟨(some 23), (.loadN 2 (.tmp 5)), none⟩, false), (⟨(some 24), (.mov (.tmp 7)), none⟩, false), (⟨(some 25), (.mov (.tmp 7)), none⟩, false), (⟨(some 26), (.idxAddr 1 (.tmp 25) (.const (.int .i64 0))), none⟩, false), (⟨(some 27), (.load (.tmp 26)), none⟩, false), (⟨(some 28), (.mov (.tmp 8)), none⟩, false), (⟨(some 29), (.call (.func 32) [(.tmp 27), (.tmp 28)]), none⟩, false), (⟨(some 30), (.call (.func 31) [(.tmp 23), (.tmp 24), (.tmp 29)]), none⟩, false), (⟨(some 31), (.mov (.tmp 8)), none⟩, false), (⟨(some 2), (.mov (.tmp 30)), none⟩, false), (⟨(some 3), (.mov (.tmp 31)), none⟩, false), (⟨(some 4), (.mov (.const (.int .i64 0))), none⟩, false)]) .ret)))))), 32, [(.tmp 2), (.tmp 3), (.tmp 4)]⟩
theorem c13 : compileFn Go.Proofs.Try.prog Go.Proofs.Try.f13 = some R13 := by kernel_rfl
theorem n13 : R13.ntmps = 32 := rfl
theorem a13 {args : List Value} {H : AHeap} {Q : Value → AHeap → Prop} (h : AWP Go.Proofs.Try.prog none R13.code (Fin R13 Q) (args ++ List.replicate (R13.ntmps - args.length) undef) H) : ACall Go.Proofs.Try.prog 13 args H Q := acall_intro mo Go.Proofs.Try.func13 c13 h

def R14 : RFunc :=
  ⟨(.seq (.ops [⟨(some 0), (.new [(.slice none 0 0), (.int .i64 0)]), none⟩]) (.seq (.ops [⟨(some 1), (.buildSlice 1 3 [(.int .i64 0), (.int .i64 0), (.int .i64 0)] [(0, (1, (.const (.int .i64 5)))), (1, (1, (.const (.int .i64 1)))), (2, (1, (.const (.int .i64 9))))]), none⟩, ⟨(some 2), (.buildSlice 1 3 [(.int .i64 0), (.int .i64 0), (.int .i64 0)] [(0, (1, (.const (.int .i64 4)))), (1, (1, (.const (.int .i64 4)))), (2, (1, (.const (.int .i64 0))))]), none⟩, ⟨(some 3), (.buildSlice 1 3 [(.int .i64 0), (.int .i64 0), (.int .i64 0)] [(0, (1, (.const (.int .i64 7)))), (1, (1, (.const (.int .i64 2)))), (2, (1, (.const (.int .i64 3))))]), none⟩, ⟨(some 4), (.buildSlice 1 3 [(.slice none 0 0), (.slice none 0 0), (.slice none 0 0)] [(0, (1, (.tmp 1))), (1, (1, (.tmp 2))), (2, (1, (.tmp 3)))]), none⟩, ⟨(some 5), (.build [(.slice none 0 0), (.int .i64 0)] [(0, (1, (.tmp 4))), (1, (1, (.const (.int .i64 1))))]), none⟩, ⟨none, (.store 2 (.tmp 0) (.tmp 5)), none⟩]) .ret)), 6, [(.loadN 2 0)]⟩
theorem c14 : compileFn Go.Proofs.Try.prog Go.Proofs.Try.f14 = some R14 := by kernel_rfl
theorem n14 : R14.ntmps = 6 := rfl
theorem a14 {args : List Value} {H : AHeap} {Q : Value → AHeap → Prop} (h : AWP Go.Proofs.Try.prog none R14.code (Fin R14 Q) (args ++ List.replicate (R14.ntmps - args.length) undef) H) : ACall Go.Proofs.Try.prog 14 args H Q := acall_intro mo Go.Proofs.Try.func14 c14 h

def R15 : RFunc :=
  ⟨(.seq (.ops [⟨(some 4), (.mov (.const (.bool false))), none⟩]) (.seq (.seq (.ops [⟨(some 6), (.mov (.tmp 0)), none⟩, ⟨(some 7), (.len (.tmp 6)), none⟩, ⟨(some 8), (.mov (.tmp 1)), none⟩, ⟨(some 9), (.len (.tmp 8)), none⟩, ⟨(some 10), (.cmp .neq (.tmp 7) (.tmp 9)), none⟩]) (.cond (.tmp 10) (.seq (.ops [⟨(some 4), (.mov (.const (.bool false))), none⟩]) .ret) .skip)) (.seq (.seq (.ops [⟨(some 5), (.mov (.const (.int .i64 0))), none⟩]) (.block 0 (.loop (.seq (.seq (.ops [⟨(some 11), (.mov (.tmp 5)), none⟩, ⟨(some 12), (.mov (.tmp 0)), none⟩, ⟨(some 13), (.len (.tmp 12)), none⟩, ⟨(some 14), (.cmp .lss (.tmp 11) (.tmp 13)), none⟩]) (.cond (.tmp 14) .skip (.exit 0))) (.seq (.block 1 (.seq (.draw [(⟨(some 17), (.mov (.tmp 0)), none⟩, false), (⟨(some 18), (.mov (.tmp 5)), none⟩, false), (⟨(some 19), (.idxAddr 1 (.tmp 17) (.tmp 18)), none⟩, false), (⟨(some 20), (.load (.tmp 19)), none⟩, false), (⟨(some 21), (.mov (.tmp 1)), none⟩, false), (⟨(some 22), (.mov (.tmp 5)), none⟩, false), (⟨(some 23), (.idxAddr 1 (.tmp 21) (.tmp 22)), none⟩, false), (⟨(some 24), (.load (.tmp 23)), none⟩, false), (⟨(some 25), (.cmp .neq (.tmp 20) (.tmp 24)), none⟩, false)]) (.cond (.tmp 25) (.seq (.ops [⟨(some 4), (.mov (.const (.bool false))), none⟩]) .ret) .skip))) (.ops [⟨(some 15), (.mov (.tmp 5)), none⟩, ⟨(some 16), (.arith .add (.tmp 15) (.const (.int .i64 1))), none⟩, ⟨(some 5), (.mov (.tmp 16)), none⟩])))))) (.seq (.ops [⟨(some 4), (.mov (.const (.bool true))), none⟩]) .ret)))), 26, [(.tmp 4)]⟩
theorem c15 : compileFn Go.Proofs.Try.prog Go.Proofs.Try.f15 = some R15 := by kernel_rfl
theorem n15 : R15.ntmps = 26 := rfl
theorem a15 {args : List Value} {H : AHeap} {Q : Value → AHeap → Prop} (h : AWP Go.Proofs.Try.prog none R15.code (Fin R15 Q) (args ++ List.replicate (R15.ntmps - args.length) undef) H) : ACall Go.Proofs.Try.prog 15 args H Q := acall_intro mo Go.Proofs.Try.func15 c15 h

def R16 : RFunc :=
  ⟨(.seq (.ops [⟨(some 4), (.mov (.const (.slice none 0 0))), none⟩, ⟨(some 5), (.mov (.const (.int .i64 0))), none⟩]) (.seq (.seq (.ops [⟨(some 11), (.mov (.tmp 0)), none⟩, ⟨(some 12), (.len (.tmp 11)), none⟩, ⟨(some 13), (.cmp .gtr (.tmp 12) (.const (.int .i64 200))), none⟩]) (.cond (.tmp 13) (.seq (.ops [⟨(some 4), (.mov (.const (.slice none 0 0))), none⟩, ⟨(some 5), (.mov (.const (.int .i64 8))), none⟩]) .ret) .skip)) (.seq (.ops [⟨(some 6), (.mov (.const (.slice none 0 0))), none⟩]) (.seq (.seq (.ops [⟨(some 14), (.mov (.tmp 0)), none⟩, ⟨(some 15), (.len (.tmp 14)), none⟩, ⟨(some 16), (.mov (.const (.int .i64 0))), none⟩]) (.block 0 (.loop (.seq (.ops [⟨(some 17), (.cmp .lss (.tmp 16) (.tmp 15)), none⟩]) (.seq (.cond (.tmp 17) .skip (.exit 0)) (.seq (.block 1 (.seq (.ops [⟨(some 18), (.idxAddr 2 (.tmp 14) (.tmp 16)), none⟩, ⟨(some 19), (.loadN 2 (.tmp 18)), none⟩, ⟨(some 8), (.new [(.int .i64 0), (.int .i64 0)]), none⟩, ⟨none, (.store 2 (.tmp 8) (.tmp 19)), none⟩]) (.seq (.ops [⟨(some 21), (.mov (.tmp 1)), none⟩, ⟨(some 22), (.loadN 2 (.tmp 8)), none⟩, ⟨(some 23), (.call (.tmp 21) [(.tmp 22)]), none⟩, ⟨(some 20), (.mov (.tmp 23)), none⟩, ⟨(some 24), (.extract (.tmp 20) 0), none⟩, ⟨(some 25), (.extract (.tmp 20) 1), none⟩, ⟨(some 9), (.new [(.int .i64 0), (.int .i64 0)]), none⟩, ⟨none, (.store 2 (.tmp 9) (.tmp 24)), none⟩, ⟨(some 10), (.mov (.tmp 25)), none⟩]) (.seq (.seq (.ops [⟨(some 26), (.mov (.tmp 10)), none⟩, ⟨(some 27), (.cmp .neq (.tmp 26) (.const (.int .i64 0))), none⟩]) (.cond (.tmp 27) (.seq (.ops [⟨(some 28), (.mov (.tmp 10)), none⟩, ⟨(some 4), (.mov (.const (.slice none 0 0))), none⟩, ⟨(some 5), (.mov (.tmp 28)), none⟩]) .ret) .skip)) (.ops [⟨(some 29), (.mov (.tmp 6)), none⟩, ⟨(some 30), (.loadN 2 (.tmp 9)), none⟩, ⟨(some 31), (.buildSlice 2 1 [(.int .i64 0), (.int .i64 0)] [(0, (2, (.tmp 30)))]), none⟩, ⟨(some 32), (.append 2 16 (.tmp 29) (.tmp 31)), none⟩, ⟨(some 6), (.mov (.tmp 32)), none⟩]))))) (.ops [⟨(some 33), (.arith .add (.tmp 16) (.const (.int .i64 1))), none⟩, ⟨(some 16), (.mov (.tmp 33)), none⟩]))))))) (.seq (.ops [⟨(some 34), (.mov (.tmp 6)), none⟩, ⟨(some 4), (.mov (.tmp 34)), none⟩, ⟨(some 5), (.mov (.const (.int .i64 0))), none⟩]) .ret))))), 35, [(.tmp 4), (.tmp 5)]⟩
theorem c16 : compileFn Go.Proofs.Try.prog Go.Proofs.Try.f16 = some R16 := by kernel_rfl
theorem n16 : R16.ntmps = 35 := rfl
theorem a16 {args : List Value} {H : AHeap} {Q : Value → AHeap → Prop} (h : AWP Go.Proofs.Try.prog none R16.code (Fin R16 Q) (args ++ List.replicate (R16.ntmps - args.length) undef) H) : ACall Go.Proofs.Try.prog 16 args H Q := acall_intro mo Go.Proofs.Try.func16 c16 h

def R17 : RFunc :=
  ⟨(.seq (.ops [⟨(some 1), (.box (.tmp 0)), none⟩, ⟨(some 2), (.new [(.int .i64 0), (.int .i64 0)]), none⟩, ⟨(some 3), (.mov (.const (.int .i64 0))), none⟩]) (.seq (.ops [⟨(some 6), (.fieldAddr 0 (.tmp 1)), none⟩, ⟨(some 7), (.load (.tmp 6)), none⟩, ⟨(some 8), (.call (.func 24) [(.tmp 7), (.const (.int .i64 1000000))]), none⟩, ⟨(some 9), (.mov (.tmp 8)), none⟩, ⟨(some 10), (.fieldAddr 1 (.tmp 1)), (some (9, true))⟩, ⟨(some 11), (.load (.tmp 10)), (some (9, true))⟩, ⟨(some 12), (.call (.func 24) [(.tmp 11), (.const (.int .i64 1000000))]), (some (9, true))⟩, ⟨(some 13), (.pick (.tmp 9) (.tmp 12) (.const (.bool false))), none⟩, ⟨(some 4), (.mov (.tmp 13)), none⟩]) (.seq (.seq (.draw [(⟨(some 14), (.mov (.tmp 4)), none⟩, false), (⟨(some 15), (.call (.func 23) [(.tmp 14), (.const (.int .i64 2))]), none⟩, false), (⟨(some 16), (.fieldAddr 0 (.tmp 1)), none⟩, false), (⟨(some 17), (.load (.tmp 16)), none⟩, false), (⟨(some 18), (.fieldAddr 1 (.tmp 1)), none⟩, false), (⟨(some 19), (.load (.tmp 18)), none⟩, false), (⟨(some 20), (.cmp .leq (.tmp 17) (.tmp 19)), none⟩, false), (⟨(some 21), (.call (.func 23) [(.tmp 20), (.const (.int .i64 9))]), none⟩, false), (⟨(some 22), (.buildSlice 1 2 [(.int .i64 0), (.int .i64 0)] [(0, (1, (.tmp 15))), (1, (1, (.tmp 21)))]), none⟩, false), (⟨(some 23), (.call (.func 21) [(.tmp 22)]), none⟩, false), (⟨(some 5), (.mov (.tmp 23)), none⟩, false)]) (.seq (.ops [⟨(some 24), (.mov (.tmp 5)), none⟩, ⟨(some 25), (.cmp .neq (.tmp 24) (.const (.int .i64 0))), none⟩]) (.cond (.tmp 25) (.seq (.ops [⟨(some 26), (.build [(.int .i64 0), (.int .i64 0)] []), none⟩, ⟨(some 27), (.mov (.tmp 5)), none⟩, ⟨none, (.store 2 (.tmp 2) (.tmp 26)), none⟩, ⟨(some 3), (.mov (.tmp 27)), none⟩]) .ret) .skip))) (.seq (.ops [⟨(some 28), (.fieldAddr 0 (.tmp 1)), none⟩, ⟨(some 29), (.load (.tmp 28)), none⟩, ⟨(some 30), (.fieldAddr 1 (.tmp 1)), none⟩, ⟨(some 31), (.load (.tmp 30)), none⟩, ⟨(some 32), (.arith .add (.tmp 29) (.tmp 31)), none⟩, ⟨(some 33), (.fieldAddr 1 (.tmp 1)), none⟩, ⟨(some 34), (.load (.tmp 33)), none⟩, ⟨(some 35), (.fieldAddr 0 (.tmp 1)), none⟩, ⟨(some 36), (.load (.tmp 35)), none⟩, ⟨(some 37), (.arith .sub (.tmp 34) (.tmp 36)), none⟩, ⟨(some 38), (.build [(.int .i64 0), (.int .i64 0)] [(0, (1, (.tmp 32))), (1, (1, (.tmp 37)))]), none⟩, ⟨none, (.store 2 (.tmp 2) (.tmp 38)), none⟩, ⟨(some 3), (.mov (.const (.int .i64 0))), none⟩]) .ret)))), 39, [(.loadN 2 2), (.tmp 3)]⟩
theorem c17 : compileFn Go.Proofs.Try.prog Go.Proofs.Try.f17 = some R17 := by kernel_rfl
theorem n17 : R17.ntmps = 39 := rfl
theorem a17 {args : List Value} {H : AHeap} {Q : Value → AHeap → Prop} (h : AWP Go.Proofs.Try.prog none R17.code (Fin R17 Q) (args ++ List.replicate (R17.ntmps - args.length) undef) H) : ACall Go.Proofs.Try.prog 17 args H Q := acall_intro mo Go.Proofs.Try.func17 c17 h

def R18 : RFunc :=
  ⟨(.seq (.ops [⟨(some 4), (.mov (.const (.slice none 0 0))), none⟩, ⟨(some 5), (.mov (.const (.int .i64 0))), none⟩]) (.seq (.seq (.ops [⟨(some 11), (.mov (.tmp 0)), none⟩, ⟨(some 12), (.len (.tmp 11)), none⟩, ⟨(some 13), (.cmp .gtr (.tmp 12) (.const (.int .i64 200))), none⟩]) (.cond (.tmp 13) (.seq (.ops [⟨(some 4), (.mov (.const (.slice none 0 0))), none⟩, ⟨(some 5), (.mov (.const (.int .i64 8))), none⟩]) .ret) .skip)) (.seq (.ops [⟨(some 6), (.mov (.const (.slice none 0 0))), none⟩]) (.seq (.seq (.ops [⟨(some 14), (.mov (.tmp 0)), none⟩, ⟨(some 15), (.len (.tmp 14)), none⟩, ⟨(some 16), (.mov (.const (.int .i64 0))), none⟩]) (.block 0 (.loop (.seq (.ops [⟨(some 17), (.cmp .lss (.tmp 16) (.tmp 15)), none⟩]) (.seq (.cond (.tmp 17) .skip (.exit 0)) (.seq (.block 1 (.seq (.ops [⟨(some 18), (.idxAddr 2 (.tmp 14) (.tmp 16)), none⟩, ⟨(some 19), (.loadN 2 (.tmp 18)), none⟩, ⟨(some 8), (.new [(.int .i64 0), (.int .i64 0)]), none⟩, ⟨none, (.store 2 (.tmp 8) (.tmp 19)), none⟩]) (.seq (.ops [⟨(some 21), (.mov (.tmp 1)), none⟩, ⟨(some 22), (.loadN 2 (.tmp 8)), none⟩, ⟨(some 23), (.call (.tmp 21) [(.tmp 22)]), none⟩, ⟨(some 20), (.mov (.tmp 23)), none⟩, ⟨(some 24), (.extract (.tmp 20) 0), none⟩, ⟨(some 25), (.extract (.tmp 20) 1), none⟩, ⟨(some 9), (.mov (.tmp 24)), none⟩, ⟨(some 10), (.mov (.tmp 25)), none⟩]) (.seq (.seq (.ops [⟨(some 26), (.mov (.tmp 10)), none⟩, ⟨(some 27), (.cmp .neq (.tmp 26) (.const (.int .i64 0))), none⟩]) (.cond (.tmp 27) (.seq (.ops [⟨(some 28), (.mov (.tmp 10)), none⟩, ⟨(some 4), (.mov (.const (.slice none 0 0))), none⟩, ⟨(some 5), (.mov (.tmp 28)), none⟩]) .ret) .skip)) (.ops [⟨(some 29), (.mov (.tmp 6)), none⟩, ⟨(some 30), (.mov (.tmp 9)), none⟩, ⟨(some 31), (.buildSlice 1 1 [(.int .i64 0)] [(0, (1, (.tmp 30)))]), none⟩, ⟨(some 32), (.append 1 8 (.tmp 29) (.tmp 31)), none⟩, ⟨(some 6), (.mov (.tmp 32)), none⟩]))))) (.ops [⟨(some 33), (.arith .add (.tmp 16) (.const (.int .i64 1))), none⟩, ⟨(some 16), (.mov (.tmp 33)), none⟩]))))))) (.seq (.ops [⟨(some 34), (.mov (.tmp 6)), none⟩, ⟨(some 4), (.mov (.tmp 34)), none⟩, ⟨(some 5), (.mov (.const (.int .i64 0))), none⟩]) .ret))))), 35, [(.tmp 4), (.tmp 5)]⟩
theorem c18 : compileFn Go.Proofs.Try.prog Go.Proofs.Try.f18 = some R18 := by kernel_rfl
theorem n18 : R18.ntmps = 35 := rfl
theorem a18 {args : List Value} {H : AHeap} {Q : Value → AHeap → Prop} (h : AWP Go.Proofs.Try.prog none R18.code (Fin R18 Q) (args ++ List.replicate (R18.ntmps - args.length) undef) H) : ACall Go.Proofs.Try.prog 18 args H Q := acall_intro mo Go.Proofs.Try.func18 c18 h

def R19 : RFunc :=
  ⟨(.seq (.ops [⟨(some 1), (.box (.tmp 0)), none⟩, ⟨(some 2), (.mov (.const (.int .i64 0))), none⟩, ⟨(some 3), (.mov (.const (.int .i64 0))), none⟩]) (.seq (.ops [⟨(some 7), (.loadN 2 (.tmp 1)), none⟩, ⟨(some 8), (.call (.func 17) [(.tmp 7)]), none⟩, ⟨(some 6), (.mov (.tmp 8)), none⟩, ⟨(some 9), (.extract (.tmp 6) 0), none⟩, ⟨(some 10), (.extract (.tmp 6) 1), none⟩, ⟨(some 4), (.new [(.int .i64 0), (.int .i64 0)]), none⟩, ⟨none, (.store 2 (.tmp 4) (.tmp 9)), none⟩, ⟨(some 5), (.mov (.tmp 10)), none⟩]) (.seq (.ops [⟨(some 11), (.fieldAddr 1 (.tmp 4)), none⟩, ⟨(some 12), (.load (.tmp 11)), none⟩, ⟨(some 13), (.mov (.tmp 5)), none⟩, ⟨(some 2), (.mov (.tmp 12)), none⟩, ⟨(some 3), (.mov (.tmp 13)), none⟩]) .ret))), 14, [(.tmp 2), (.tmp 3)]⟩
theorem c19 : compileFn Go.Proofs.Try.prog Go.Proofs.Try.f19 = some R19 := by kernel_rfl
theorem n19 : R19.ntmps = 14 := rfl
theorem a19 {args : List Value} {H : AHeap} {Q : Value → AHeap → Prop} (h : AWP Go.Proofs.Try.prog none R19.code (Fin R19 Q) (args ++ List.replicate (R19.ntmps - args.length) undef) H) : ACall Go.Proofs.Try.prog 19 args H Q := acall_intro mo Go.Proofs.Try.func19 c19 h

def R20 : RFunc :=
  ⟨(.seq (.ops [⟨(some 6), (.mov (.const (.bool false))), none⟩]) (.seq (.ops [⟨(some 7), (.mov (.tmp 1)), none⟩, ⟨(some 8), (.mov (.tmp 0)), none⟩, ⟨(some 9), (.cmp .leq (.tmp 7) (.tmp 8)), none⟩, ⟨(some 10), (.mov (.tmp 9)), none⟩, ⟨(some 11), (.mov (.tmp 0)), (some (10, true))⟩, ⟨(some 12), (.mov (.tmp 2)), (some (10, true))⟩, ⟨(some 13), (.cmp .leq (.tmp 11) (.tmp 12)), (some (10, true))⟩, ⟨(some 14), (.pick (.tmp 10) (.tmp 13) (.const (.bool false))), none⟩, ⟨(some 6), (.mov (.tmp 14)), none⟩]) .ret)), 15, [(.tmp 6)]⟩
theorem c20 : compileFn Go.Proofs.Try.prog Go.Proofs.Try.f20 = some R20 := by kernel_rfl
theorem n20 : R20.ntmps = 15 := rfl
theorem a20 {args : List Value} {H : AHeap} {Q : Value → AHeap → Prop} (h : AWP Go.Proofs.Try.prog none R20.code (Fin R20 Q) (args ++ List.replicate (R20.ntmps - args.length) undef) H) : ACall Go.Proofs.Try.prog 20 args H Q := acall_intro mo Go.Proofs.Try.func20 c20 h

def R21 : RFunc :=
  ⟨(.seq (.ops [⟨(some 2), (.mov (.const (.int .i64 0))), none⟩]) (.seq (.seq (.ops [⟨(some 5), (.mov (.tmp 0)), none⟩, ⟨(some 6), (.len (.tmp 5)), none⟩, ⟨(some 7), (.mov (.const (.int .i64 0))), none⟩]) (.block 0 (.loop (.seq (.ops [⟨(some 8), (.cmp .lss (.tmp 7) (.tmp 6)), none⟩]) (.seq (.cond (.tmp 8) .skip (.exit 0)) (.seq (.block 1 (.seq (.ops [⟨(some 9), (.idxAddr 1 (.tmp 5) (.tmp 7)), none⟩, ⟨(some 10), (.load (.tmp 9)), none⟩, ⟨(some 4), (.mov (.tmp 10)), none⟩]) (.seq (.ops [⟨(some 11), (.mov (.tmp 4)), none⟩, ⟨(some 12), (.cmp .neq (.tmp 11) (.const (.int .i64 0))), none⟩]) (.cond (.tmp 12) (.seq (.ops [⟨(some 13), (.mov (.tmp 4)), none⟩, ⟨(some 2), (.mov (.tmp 13)), none⟩]) .ret) .skip)))) (.ops [⟨(some 14), (.arith .add (.tmp 7) (.const (.int .i64 1))), none⟩, ⟨(some 7), (.mov (.tmp 14)), none⟩]))))))) (.seq (.ops [⟨(some 2), (.mov (.const (.int .i64 0))), none⟩]) .ret))), 15, [(.tmp 2)]⟩
theorem c21 : compileFn Go.Proofs.Try.prog Go.Proofs.Try.f21 = some R21 := by kernel_rfl
theorem n21 : R21.ntmps = 15 := rfl
theorem a21 {args : List Value} {H : AHeap} {Q : Value → AHeap → Prop} (h : AWP Go.Proofs.Try.prog none R21.code (Fin R21 Q) (args ++ List.replicate (R21.ntmps - args.length) undef) H) : ACall Go.Proofs.Try.prog 21 args H Q := acall_intro mo Go.Proofs.Try.func21 c21 h

def R22 : RFunc :=
  ⟨(.seq (.ops [⟨(some 2), (.mov (.const (.int .i64 0))), none⟩]) (.seq (.ops [⟨(some 4), (.mov (.tmp 0)), none⟩, ⟨(some 5), (.call (.func 33) [(.tmp 4), (.func 34)]), none⟩, ⟨(some 3), (.mov (.tmp 5)), none⟩]) (.seq (.ops [⟨(some 6), (.mov (.tmp 0)), none⟩, ⟨(some 7), (.len (.tmp 6)), none⟩, ⟨(some 8), (.cmp .leq (.tmp 7) (.const (.int .i64 200))), none⟩, ⟨(some 9), (.call (.func 23) [(.tmp 8), (.const (.int .i64 8))]), none⟩, ⟨(some 10), (.mov (.tmp 3)), none⟩, ⟨(some 11), (.not (.tmp 10)), none⟩, ⟨(some 12), (.call (.func 23) [(.tmp 11), (.const (.int .i64 2))]), none⟩, ⟨(some 13), (.buildSlice 1 2 [(.int .i64 0), (.int .i64 0)] [(0, (1, (.tmp 9))), (1, (1, (.tmp 12)))]), none⟩, ⟨(some 14), (.call (.func 21) [(.tmp 13)]), none⟩, ⟨(some 2), (.mov (.tmp 14)), none⟩]) .ret))), 15, [(.tmp 2)]⟩
theorem c22 : compileFn Go.Proofs.Try.prog Go.Proofs.Try.f22 = some R22 := by kernel_rfl
theorem n22 : R22.ntmps = 15 := rfl
theorem a22 {args : List Value} {H : AHeap} {Q : Value → AHeap → Prop} (h : AWP Go.Proofs.Try.prog none R22.code (Fin R22 Q) (args ++ List.replicate (R22.ntmps - args.length) undef) H) : ACall Go.Proofs.Try.prog 22 args H Q := acall_intro mo Go.Proofs.Try.func22 c22 h

def R23 : RFunc :=
  ⟨(.seq (.ops [⟨(some 4), (.mov (.const (.int .i64 0))), none⟩]) (.seq (.seq (.ops [⟨(some 5), (.mov (.tmp 0)), none⟩]) (.cond (.tmp 5) (.seq (.ops [⟨(some 4), (.mov (.const (.int .i64 0))), none⟩]) .ret) .skip)) (.seq (.ops [⟨(some 6), (.mov (.tmp 1)), none⟩, ⟨(some 4), (.mov (.tmp 6)), none⟩]) .ret))), 7, [(.tmp 4)]⟩
theorem c23 : compileFn Go.Proofs.Try.prog Go.Proofs.Try.f23 = some R23 := by kernel_rfl
theorem n23 : R23.ntmps = 7 := rfl
theorem a23 {args : List Value} {H : AHeap} {Q : Value → AHeap → Prop} (h : AWP Go.Proofs.Try.prog none R23.code (Fin R23 Q) (args ++ List.replicate (R23.ntmps - args.length) undef) H) : ACall Go.Proofs.Try.prog 23 args H Q := acall_intro mo Go.Proofs.Try.func23 c23 h

end Go.Lq

namespace Go.Lq
open Go

def R24 : RFunc :=
  ⟨(.seq (.ops [⟨(some 4), (.mov (.const (.bool false))), none⟩]) (.seq (.ops [⟨(some 5), (.mov (.tmp 0)), none⟩, ⟨(some 6), (.mov (.tmp 1)), none⟩, ⟨(some 7), (.neg (.tmp 6)), none⟩, ⟨(some 8), (.mov (.tmp 1)), none⟩, ⟨(some 9), (.call (.func 35) [(.tmp 5), (.tmp 7), (.tmp 8)]), none⟩, ⟨(some 4), (.mov (.tmp 9)), none⟩]) .ret)), 10, [(.tmp 4)]⟩
theorem c24 : compileFn Go.Proofs.Try.prog Go.Proofs.Try.f24 = some R24 := by kernel_rfl
theorem n24 : R24.ntmps = 10 := rfl
theorem a24 {args : List Value} {H : AHeap} {Q : Value → AHeap → Prop} (h : AWP Go.Proofs.Try.prog none R24.code (Fin R24 Q) (args ++ List.replicate (R24.ntmps - args.length) undef) H) : ACall Go.Proofs.Try.prog 24 args H Q := acall_intro mo Go.Proofs.Try.func24 c24 h

def R25 : RFunc :=
  ⟨(.seq (.ops [⟨(some 4), (.mov (.const (.slice none 0 0))), none⟩, ⟨(some 5), (.mov (.const (.int .i64 0))), none⟩]) (.seq (.seq (.ops [⟨(some 11), (.mov (.tmp 0)), none⟩, ⟨(some 12), (.len (.tmp 11)), none⟩, ⟨(some 13), (.cmp .gtr (.tmp 12) (.const (.int .i64 200))), none⟩]) (.cond (.tmp 13) (.seq (.ops [⟨(some 4), (.mov (.const (.slice none 0 0))), none⟩, ⟨(some 5), (.mov (.const (.int .i64 8))), none⟩]) .ret) .skip)) (.seq (.ops [⟨(some 6), (.mov (.const (.slice none 0 0))), none⟩]) (.seq (.seq (.ops [⟨(some 14), (.mov (.tmp 0)), none⟩, ⟨(some 15), (.len (.tmp 14)), none⟩, ⟨(some 16), (.mov (.const (.int .i64 0))), none⟩]) (.block 0 (.loop (.seq (.ops [⟨(some 17), (.cmp .lss (.tmp 16) (.tmp 15)), none⟩]) (.seq (.cond (.tmp 17) .skip (.exit 0)) (.seq (.block 1 (.seq (.ops [⟨(some 18), (.idxAddr 2 (.tmp 14) (.tmp 16)), none⟩, ⟨(some 19), (.loadN 2 (.tmp 18)), none⟩, ⟨(some 8), (.new [(.int .i64 0), (.int .i64 0)]), none⟩, ⟨none, (.store 2 (.tmp 8) (.tmp 19)), none⟩]) (.seq (.ops [⟨(some 21), (.mov (.tmp 1)), none⟩, ⟨(some 22), (.loadN 2 (.tmp 8)), none⟩, ⟨(some 23), (.call (.tmp 21) [(.tmp 22)]), none⟩, ⟨(some 20), (.mov (.tmp 23)), none⟩, ⟨(some 24), (.extract (.tmp 20) 0), none⟩, ⟨(some 25), (.extract (.tmp 20) 1), none⟩, ⟨(some 9), (.new [(.int .i64 0), (.int .i64 0)]), none⟩, ⟨none, (.store 2 (.tmp 9) (.tmp 24)), none⟩, ⟨(some 10), (.mov (.tmp 25)), none⟩]) (.seq (.seq (.ops [⟨(some 26), (.mov (.tmp 10)), none⟩, ⟨(some 27), (.cmp .neq (.tmp 26) (.const (.int .i64 0))), none⟩]) (.cond (.tmp 27) (.seq (.ops [⟨(some 28), (.mov (.tmp 10)), none⟩, ⟨(some 4), (.mov (.const (.slice none 0 0))), none⟩, ⟨(some 5), (.mov (.tmp 28)), none⟩]) .ret) .skip)) (.ops [⟨(some 29), (.mov (.tmp 6)), none⟩, ⟨(some 30), (.loadN 2 (.tmp 9)), none⟩, ⟨(some 31), (.buildSlice 2 1 [(.int .i64 0), (.int .i64 0)] [(0, (2, (.tmp 30)))]), none⟩, ⟨(some 32), (.append 2 16 (.tmp 29) (.tmp 31)), none⟩, ⟨(some 6), (.mov (.tmp 32)), none⟩]))))) (.ops [⟨(some 33), (.arith .add (.tmp 16) (.const (.int .i64 1))), none⟩, ⟨(some 16), (.mov (.tmp 33)), none⟩]))))))) (.seq (.ops [⟨(some 34), (.mov (.tmp 6)), none⟩, ⟨(some 4), (.mov (.tmp 34)), none⟩, ⟨(some 5), (.mov (.const (.int .i64 0))), none⟩]) .ret))))), 35, [(.tmp 4), (.tmp 5)]⟩
theorem c25 : compileFn Go.Proofs.Try.prog Go.Proofs.Try.f25 = some R25 := by kernel_rfl
theorem n25 : R25.ntmps = 35 := rfl
theorem a25 {args : List Value} {H : AHeap} {Q : Value → AHeap → Prop} (h : AWP Go.Proofs.Try.prog none R25.code (Fin R25 Q) (args ++ List.replicate (R25.ntmps - args.length) undef) H) : ACall Go.Proofs.Try.prog 25 args H Q := acall_intro mo Go.Proofs.Try.func25 c25 h

def R26 : RFunc :=
  ⟨(.seq (.ops [⟨(some 1), (.box (.tmp 0)), none⟩, ⟨(some 2), (.new [(.int .i64 0), (.int .i64 0)]), none⟩, ⟨(some 3), (.mov (.const (.int .i64 0))), none⟩]) (.seq (.ops [⟨(some 7), (.fieldAddr 0 (.tmp 1)), none⟩, ⟨(some 8), (.load (.tmp 7)), none⟩, ⟨(some 9), (.call (.func 24) [(.tmp 8), (.const (.int .i64 2000000))]), none⟩, ⟨(some 10), (.mov (.tmp 9)), none⟩, ⟨(some 11), (.fieldAddr 1 (.tmp 1)), (some (10, true))⟩, ⟨(some 12), (.load (.tmp 11)), (some (10, true))⟩, ⟨(some 13), (.call (.func 24) [(.tmp 12), (.const (.int .i64 2000000))]), (some (10, true))⟩, ⟨(some 14), (.pick (.tmp 10) (.tmp 13) (.const (.bool false))), none⟩, ⟨(some 4), (.mov (.tmp 14)), none⟩]) (.seq (.seq (.ops [⟨(some 15), (.mov (.tmp 4)), none⟩, ⟨(some 16), (.not (.tmp 15)), none⟩]) (.cond (.tmp 16) (.seq (.ops [⟨(some 17), (.build [(.int .i64 0), (.int .i64 0)] []), none⟩, ⟨none, (.store 2 (.tmp 2) (.tmp 17)), none⟩, ⟨(some 3), (.mov (.const (.int .i64 2))), none⟩]) .ret) .skip)) (.seq (.ops [⟨(some 18), (.fieldAddr 0 (.tmp 1)), none⟩, ⟨(some 19), (.load (.tmp 18)), none⟩, ⟨(some 20), (.fieldAddr 1 (.tmp 1)), none⟩, ⟨(some 21), (.load (.tmp 20)), none⟩, ⟨(some 22), (.arith .sub (.tmp 19) (.tmp 21)), none⟩, ⟨(some 23), (.arith .quo (.tmp 22) (.const (.int .i64 2))), none⟩, ⟨(some 24), (.fieldAddr 0 (.tmp 1)), none⟩, ⟨(some 25), (.load (.tmp 24)), none⟩, ⟨(some 26), (.fieldAddr 1 (.tmp 1)), none⟩, ⟨(some 27), (.load (.tmp 26)), none⟩, ⟨(some 28), (.arith .add (.tmp 25) (.tmp 27)), none⟩, ⟨(some 29), (.arith .quo (.tmp 28) (.const (.int .i64 2))), none⟩, ⟨(some 30), (.build [(.int .i64 0), (.int .i64 0)] [(0, (1, (.tmp 23))), (1, (1, (.tmp 29)))]), none⟩, ⟨(some 5), (.new [(.int .i64 0), (.int .i64 0)]), none⟩, ⟨none, (.store 2 (.tmp 5) (.tmp 30)), none⟩]) (.seq (.draw [(⟨(some 31), (.fieldAddr 0 (.tmp 1)), none⟩, false), (⟨(some 32), (.load (.tmp 31)), none⟩, false), (⟨(some 33), (.fieldAddr 1 (.tmp 1)), none⟩, false), (⟨(some 34), (.load (.tmp 33)), none⟩, false), (⟨(some 35), (.arith .sub (.tmp 32) (.tmp 34)), none⟩, false), (⟨(some 36), (.arith .rem (.tmp 35) (.const (.int .i64 2))), none⟩, false), (⟨(some 37), (.cmp .eql (.tmp 36) (.const (.int .i64 0))), none⟩, false), (⟨(some 38), (.call (.func 23) [(.tmp 37), (.const (.int .i64 3))]), none⟩, false), (⟨(some 39), (.fieldAddr 1 (.tmp 1)), none⟩, false), (⟨(some 40), (.load (.tmp 39)), none⟩, false), (⟨(some 41), (.cmp .geq (.tmp 40) (.const (.int .i64 0))), none⟩, false), (⟨(some 42), (.call (.func 23) [(.tmp 41), (.const (.int .i64 9))]), none⟩, false), (⟨(some 43), (.fieldAddr 0 (.tmp 5)), none⟩, false), (⟨(some 44), (.load (.tmp 43)), none⟩, false), (⟨(some 45), (.call (.func 24) [(.tmp 44), (.const (.int .i64 1000000))]), none⟩, false), (⟨(some 46), (.mov (.tmp 45)), none⟩, false), (⟨(some 47), (.fieldAddr 1 (.tmp 5)), (some (46, true))⟩, false), (⟨(some 48), (.load (.tmp 47)), (some (46, true))⟩, false), (⟨(some 49), (.call (.func 24) [(.tmp 48), (.const (.int .i64 1000000))]), (some (46, true))⟩, false), (⟨(some 50), (.pick (.tmp 46) (.tmp 49) (.const (.bool false))), none⟩, false), (⟨(some 51), (.call (.func 23) [(.tmp 50), (.const (.int .i64 23))]), none⟩, false), (⟨(some 52), (.buildSlice 1 3 [(.int .i64 0), (.int .i64 0), (.int .i64 0)] [(0, (1, (.tmp 38))), (1, (1, (.tmp 42))), (2, (1, (.tmp 51)))]), none⟩, false), (⟨(some 53), (.call (.func 21) [(.tmp 52)]), none⟩, false), (⟨(some 6), (.mov (.tmp 53)), none⟩, false)]) (.seq (.ops [⟨(some 54), (.loadN 2 (.tmp 5)), none⟩, ⟨(some 55), (.mov (.tmp 6)), none⟩, ⟨none, (.store 2 (.tmp 2) (.tmp 54)), none⟩, ⟨(some 3), (.mov (.tmp 55)), none⟩]) .ret)))))), 56, [(.loadN 2 2), (.tmp 3)]⟩
theorem c26 : compileFn Go.Proofs.Try.prog Go.Proofs.Try.f26 = some R26 := by kernel_rfl
theorem n26 : R26.ntmps = 56 := rfl
theorem a26 {args : List Value} {H : AHeap} {Q : Value → AHeap → Prop} (h : AWP Go.Proofs.Try.prog none R26.code (Fin R26 Q) (args ++ List.replicate (R26.ntmps - args.length) undef) H) : ACall Go.Proofs.Try.prog 26 args H Q := acall_intro mo Go.Proofs.Try.func26 c26 h

def R27 : RFunc :=
  ⟨(.seq (.ops [⟨(some 1), (.box (.tmp 0)), none⟩, ⟨(some 2), (.new [(.slice none 0 0), (.int .i64 0)]), none⟩, ⟨(some 3), (.mov (.const (.int .i64 0))), none⟩]) (.seq (.draw [(⟨(some 4), (.loadN 2 (.tmp 1)), none⟩, false), (⟨(some 5), (.build [(.slice none 0 0), (.int .i64 0)] [(0, (2, (.tmp 4)))]), none⟩, false), (⟨(some 6), (.fieldAddr 0 (.tmp 1)), none⟩, false), (⟨(some 7), (.load (.tmp 6)), none⟩, false), (⟨(some 8), (.call (.func 36) [(.tmp 7)]), none⟩, false), (⟨(some 9), (.fieldAddr 1 (.tmp 1)), none⟩, false), (⟨(some 10), (.load (.tmp 9)), none⟩, false), (⟨(some 11), (.call (.func 35) [(.tmp 10), (.const (.int .i64 0)), (.const (.int .i64 1000))]), none⟩, false), (⟨(some 12), (.call (.func 23) [(.tmp 11), (.const (.int .i64 2))]), none⟩, false), (⟨(some 13), (.buildSlice 1 2 [(.int .i64 0), (.int .i64 0)] [(0, (1, (.tmp 8))), (1, (1, (.tmp 12)))]), none⟩, false), (⟨(some 14), (.call (.func 21) [(.tmp 13)]), none⟩, false), (⟨none, (.store 2 (.tmp 2) (.tmp 5)), none⟩, false), (⟨(some 3), (.mov (.tmp 14)), none⟩, false)]) .ret)), 15, [(.loadN 2 2), (.tmp 3)]⟩
theorem c27 : compileFn Go.Proofs.Try.prog Go.Proofs.Try.f27 = some R27 := by kernel_rfl
theorem n27 : R27.ntmps = 15 := rfl
theorem a27 {args : List Value} {H : AHeap} {Q : Value → AHeap → Prop} (h : AWP Go.Proofs.Try.prog none R27.code (Fin R27 Q) (args ++ List.replicate (R27.ntmps - args.length) undef) H) : ACall Go.Proofs.Try.prog 27 args H Q := acall_intro mo Go.Proofs.Try.func27 c27 h

def R28 : RFunc :=
  ⟨(.seq (.ops [⟨(some 2), (.box (.tmp 0)), none⟩, ⟨(some 3), (.box (.tmp 1)), none⟩, ⟨(some 4), (.mov (.const (.slice none 0 0))), none⟩]) (.seq (.ops [⟨(some 11), (.fieldAddr 0 (.tmp 2)), none⟩, ⟨(some 12), (.fieldAddr 0 (.tmp 11)), none⟩, ⟨(some 13), (.load (.tmp 12)), none⟩, ⟨(some 14), (.len (.tmp 13)), none⟩, ⟨(some 15), (.mkSlice 24 [(.slice none 0 0)] (.tmp 14) (.tmp 14)), none⟩, ⟨(some 5), (.new [(.slice none 0 0)]), none⟩, ⟨none, (.store 1 (.tmp 5) (.tmp 15)), none⟩]) (.seq (.seq (.ops [⟨(some 16), (.fieldAddr 0 (.tmp 2)), none⟩, ⟨(some 17), (.fieldAddr 0 (.tmp 16)), none⟩, ⟨(some 18), (.load (.tmp 17)), none⟩, ⟨(some 19), (.call (.func 37) [(.tmp 18)]), none⟩]) (.block 0 (.rangeFunc (.tmp 19) [20, 21] (.seq (.ops [⟨(some 6), (.new [(.int .i64 0)]), none⟩, ⟨none, (.store 1 (.tmp 6) (.tmp 20)), none⟩]) (.ops [⟨(some 7), (.mov (.tmp 21)), none⟩])) (.block 1 (.seq (.draw [(⟨(some 22), (.load (.tmp 5)), none⟩, false), (⟨(some 23), (.load (.tmp 6)), none⟩, false), (⟨(some 24), (.buildSlice 1 1 [(.int .i64 0)] [(0, (1, (.const (.int .i64 1000000))))]), none⟩, false), (⟨(some 25), (.loadN 2 (.tmp 2)), none⟩, false), (⟨(some 26), (.call (.func 39) [(.tmp 25)]), none⟩, true), (⟨(some 27), (.call (.func 38) [(.tmp 24), (.tmp 26)]), none⟩, false), (⟨(some 28), (.idxAddr 1 (.tmp 22) (.tmp 23)), none⟩, false), (⟨none, (.store 1 (.tmp 28) (.tmp 27)), none⟩, false)]) (.seq (.ops [⟨(some 29), (.mov (.tmp 7)), none⟩, ⟨(some 30), (.len (.tmp 29)), none⟩, ⟨(some 31), (.mov (.const (.int .i64 0))), none⟩]) (.block 2 (.loop (.seq (.ops [⟨(some 32), (.cmp .lss (.tmp 31) (.tmp 30)), none⟩]) (.seq (.cond (.tmp 32) .skip (.exit 2)) (.seq (.block 3 (.seq (.ops [⟨(some 33), (.mov (.tmp 31)), none⟩, ⟨(some 34), (.idxAddr 1 (.tmp 29) (.tmp 31)), none⟩, ⟨(some 35), (.load (.tmp 34)), none⟩, ⟨(some 8), (.new [(.int .i64 0)]), none⟩, ⟨(some 9), (.new [(.int .i64 0)]), none⟩, ⟨none, (.store 1 (.tmp 8) (.tmp 33)), none⟩, ⟨none, (.store 1 (.tmp 9) (.tmp 35)), none⟩]) (.seq (.seq (.draw [(⟨(some 36), (.load (.tmp 6)), none⟩, false), (⟨(some 37), (.loadN 2 (.tmp 2)), none⟩, false), (⟨(some 38), (.call (.func 40) [(.tmp 37)]), none⟩, false), (⟨(some 39), (.cmp .eql (.tmp 36) (.tmp 38)), none⟩, false)]) (.cond (.tmp 39) (.seq (.seq (.ops [⟨(some 40), (.load (.tmp 3)), none⟩, ⟨(some 41), (.load (.tmp 8)), none⟩, ⟨(some 42), (.call (.tmp 40) [(.tmp 41)]), none⟩]) (.cond (.tmp 42) (.draw [(⟨(some 43), (.load (.tmp 5)), none⟩, false), (⟨(some 44), (.load (.tmp 6)), none⟩, false), (⟨(some 45), (.idxAddr 1 (.tmp 43) (.tmp 44)), none⟩, false), (⟨(some 46), (.load (.tmp 45)), none⟩, false), (⟨(some 47), (.load (.tmp 8)), none⟩, false), (⟨(some 48), (.load (.tmp 9)), none⟩, false), (⟨(some 49), (.idxAddr 1 (.tmp 46) (.tmp 47)), none⟩, false), (⟨none, (.store 1 (.tmp 49) (.tmp 48)), none⟩, false)]) .skip)) (.exit 3)) .skip)) (.seq (.ops [⟨(some 50), (.loadN 2 (.tmp 2)), none⟩, ⟨(some 51), (.load (.tmp 8)), none⟩, ⟨(some 52), (.call (.func 41) [(.tmp 50), (.tmp 51)]), none⟩]) (.block 4 (.rangeFunc (.tmp 52) [53] (.ops [⟨(some 10), (.mov (.tmp 53)), none⟩]) (.block 5 (.draw [(⟨(some 54), (.load (.tmp 5)), none⟩, false), (⟨(some 55), (.load (.tmp 6)), none⟩, false), (⟨(some 56), (.idxAddr 1 (.tmp 54) (.tmp 55)), none⟩, false), (⟨(some 57), (.load (.tmp 56)), none⟩, false), (⟨(some 58), (.load (.tmp 8)), none⟩, false), (⟨(some 59), (.load (.tmp 5)), none⟩, false), (⟨(some 60), (.load (.tmp 6)), none⟩, false), (⟨(some 61), (.idxAddr 1 (.tmp 59) (.tmp 60)), none⟩, false), (⟨(some 62), (.load (.tmp 61)), none⟩, false), (⟨(some 63), (.load (.tmp 8)), none⟩, false), (⟨(some 64), (.idxAddr 1 (.tmp 62) (.tmp 63)), none⟩, false), (⟨(some 65), (.load (.tmp 64)), none⟩, false), (⟨(some 66), (.load (.tmp 9)), none⟩, false), (⟨(some 67), (.loadN 2 (.tmp 2)), none⟩, false), (⟨(some 68), (.load (.tmp 8)), none⟩, false), (⟨(some 69), (.mov (.tmp 10)), none⟩, false), (⟨(some 70), (.call (.func 42) [(.tmp 67), (.tmp 68), (.tmp 69)]), none⟩, false), (⟨(some 71), (.arith .add (.tmp 66) (.tmp 70)), none⟩, false), (⟨(some 72), (.load (.tmp 5)), none⟩, false), (⟨(some 73), (.load (.tmp 6)), none⟩, false), (⟨(some 74), (.arith .add (.tmp 73) (.const (.int .i64 1))), none⟩, false), (⟨(some 75), (.idxAddr 1 (.tmp 72) (.tmp 74)), none⟩, false), (⟨(some 76), (.load (.tmp 75)), none⟩, false), (⟨(some 77), (.mov (.tmp 10)), none⟩, false), (⟨(some 78), (.idxAddr 1 (.tmp 76) (.tmp 77)), none⟩, false), (⟨(some 79), (.load (.tmp 78)), none⟩, false), (⟨(some 80), (.arith .add (.tmp 71) (.tmp 79)), none⟩, false), (⟨(some 81), (.most false (.tmp 65) [(.tmp 80)]), none⟩, false), (⟨(some 82), (.idxAddr 1 (.tmp 57) (.tmp 58)), none⟩, false), (⟨none, (.store 1 (.tmp 82) (.tmp 81)), none⟩, false)])))))))) (.ops [⟨(some 83), (.arith .add (.tmp 31) (.const (.int .i64 1))), none⟩, ⟨(some 31), (.mov (.tmp 83)), none⟩])))))))))))) (.seq (.ops [⟨(some 84), (.load (.tmp 5)), none⟩, ⟨(some 4), (.mov (.tmp 84)), none⟩]) .ret)))), 85, [(.tmp 4)]⟩
theorem c28 : compileFn Go.Proofs.Try.prog Go.Proofs.Try.f28 = some R28 := by kernel_rfl
theorem n28 : R28.ntmps = 85 := rfl
theorem a28 {args : List Value} {H : AHeap} {Q : Value → AHeap → Prop} (h : AWP Go.Proofs.Try.prog none R28.code (Fin R28 Q) (args ++ List.replicate (R28.ntmps - args.length) undef) H) : ACall Go.Proofs.Try.prog 28 args H Q := acall_intro mo Go.Proofs.Try.func28 c28 h

def R29 : RFunc :=
  ⟨(.seq (.ops [⟨(some 2), (.mov (.const (.bool false))), none⟩]) (.seq (.ops [⟨(some 2), (.mov (.const (.bool true))), none⟩]) .ret)), 3, [(.tmp 2)]⟩
theorem c29 : compileFn Go.Proofs.Try.prog Go.Proofs.Try.f29 = some R29 := by kernel_rfl
theorem n29 : R29.ntmps = 3 := rfl
theorem a29 {args : List Value} {H : AHeap} {Q : Value → AHeap → Prop} (h : AWP Go.Proofs.Try.prog none R29.code (Fin R29 Q) (args ++ List.replicate (R29.ntmps - args.length) undef) H) : ACall Go.Proofs.Try.prog 29 args H Q := acall_intro mo Go.Proofs.Try.func29 c29 h

def R30 : RFunc :=
  ⟨(.seq (.ops [⟨(some 2), (.mov (.const (.int .i64 0))), none⟩]) (.seq (.seq (.ops [⟨(some 5), (.mov (.tmp 0)), none⟩, ⟨(some 6), (.len (.tmp 5)), none⟩, ⟨(some 7), (.cmp .lss (.tmp 6) (.const (.int .i64 1))), none⟩]) (.cond (.tmp 7) (.ops [⟨(some 8), (.iface 9 (.const (.string ⟨#[115, 108, 105, 99, 101, 115, 46, 77, 105, 110, 58, 32, 101, 109, 112, 116, 121, 32, 108, 105, 115, 116]⟩))), none⟩, ⟨none, (.extract (.const (.chan none)) 0), none⟩]) .skip)) (.seq (.ops [⟨(some 9), (.mov (.tmp 0)), none⟩, ⟨(some 10), (.idxAddr 1 (.tmp 9) (.const (.int .i64 0))), none⟩, ⟨(some 11), (.load (.tmp 10)), none⟩, ⟨(some 3), (.mov (.tmp 11)), none⟩]) (.seq (.seq (.ops [⟨(some 4), (.mov (.const (.int .i64 1))), none⟩]) (.block 0 (.loop (.seq (.seq (.ops [⟨(some 12), (.mov (.tmp 4)), none⟩, ⟨(some 13), (.mov (.tmp 0)), none⟩, ⟨(some 14), (.len (.tmp 13)), none⟩, ⟨(some 15), (.cmp .lss (.tmp 12) (.tmp 14)), none⟩]) (.cond (.tmp 15) .skip (.exit 0))) (.seq (.block 1 (.ops [⟨(some 18), (.mov (.tmp 3)), none⟩, ⟨(some 19), (.mov (.tmp 0)), none⟩, ⟨(some 20), (.mov (.tmp 4)), none⟩, ⟨(some 21), (.idxAddr 1 (.tmp 19) (.tmp 20)), none⟩, ⟨(some 22), (.load (.tmp 21)), none⟩, ⟨(some 23), (.most false (.tmp 18) [(.tmp 22)]), none⟩, ⟨(some 3), (.mov (.tmp 23)), none⟩])) (.ops [⟨(some 16), (.mov (.tmp 4)), none⟩, ⟨(some 17), (.arith .add (.tmp 16) (.const (.int .i64 1))), none⟩, ⟨(some 4), (.mov (.tmp 17)), none⟩])))))) (.seq (.ops [⟨(some 24), (.mov (.tmp 3)), none⟩, ⟨(some 2), (.mov (.tmp 24)), none⟩]) .ret))))), 25, [(.tmp 2)]⟩
theorem c30 : compileFn Go.Proofs.Try.prog Go.Proofs.Try.f30 = some R30 := by kernel_rfl
theorem n30 : R30.ntmps = 25 := rfl
theorem a30 {args : List Value} {H : AHeap} {Q : Value → AHeap → Prop} (h : AWP Go.Proofs.Try.prog none R30.code (Fin R30 Q) (args ++ List.replicate (R30.ntmps - args.length) undef) H) : ACall Go.Proofs.Try.prog 30 args H Q := acall_intro mo Go.Proofs.Try.func30 c30 h

def R31 : RFunc :=
  ⟨(.seq (.ops [⟨(some 3), (.box (.tmp 0)), none⟩, ⟨(some 4), (.box (.tmp 1)), none⟩, ⟨(some 5), (.box (.tmp 2)), none⟩, ⟨(some 6), (.mov (.const (.slice none 0 0))), none⟩]) (.seq (.ops [⟨(some 10), (.load (.tmp 5)), none⟩, ⟨(some 11), (.buildSlice 1 1 [(.int .i64 0)] [(0, (1, (.tmp 10)))]), none⟩, ⟨(some 7), (.new [(.slice none 0 0)]), none⟩, ⟨none, (.store 1 (.tmp 7) (.tmp 11)), none⟩]) (.seq (.seq (.ops [⟨(some 12), (.loadN 2 (.tmp 3)), none⟩, ⟨(some 13), (.call (.func 40) [(.tmp 12)]), none⟩, ⟨(some 14), (.mov (.const (.int .i64 0))), none⟩]) (.block 0 (.loop (.seq (.ops [⟨(some 15), (.cmp .lss (.tmp 14) (.tmp 13)), none⟩]) (.seq (.cond (.tmp 15) .skip (.exit 0)) (.seq (.block 1 (.seq (.ops [⟨(some 16), (.mov (.tmp 14)), none⟩, ⟨(some 8), (.new [(.int .i64 0)]), none⟩, ⟨none, (.store 1 (.tmp 8) (.tmp 16)), none⟩]) (.seq (.ops [⟨(some 17), (.loadN 2 (.tmp 3)), none⟩, ⟨(some 18), (.load (.tmp 5)), none⟩, ⟨(some 19), (.call (.func 41) [(.tmp 17), (.tmp 18)]), none⟩]) (.block 2 (.rangeFunc (.tmp 19) [20] (.ops [⟨(some 9), (.mov (.tmp 20)), none⟩]) (.block 3 (.seq (.draw [(⟨(some 21), (.fieldAddr 0 (.tmp 3)), none⟩, false), (⟨(some 22), (.fieldAddr 0 (.tmp 21)), none⟩, false), (⟨(some 23), (.load (.tmp 22)), none⟩, false), (⟨(some 24), (.load (.tmp 8)), none⟩, false), (⟨(some 25), (.idxAddr 1 (.tmp 23) (.tmp 24)), none⟩, false), (⟨(some 26), (.load (.tmp 25)), none⟩, false), (⟨(some 27), (.load (.tmp 5)), none⟩, false), (⟨(some 28), (.idxAddr 1 (.tmp 26) (.tmp 27)), none⟩, false), (⟨(some 29), (.load (.tmp 28)), none⟩, false), (⟨(some 30), (.loadN 2 (.tmp 3)), none⟩, false), (⟨(some 31), (.load (.tmp 5)), none⟩, false), (⟨(some 32), (.mov (.tmp 9)), none⟩, false), (⟨(some 33), (.call (.func 42) [(.tmp 30), (.tmp 31), (.tmp 32)]), none⟩, false), (⟨(some 34), (.arith .add (.tmp 29) (.tmp 33)), none⟩, false), (⟨(some 35), (.load (.tmp 4)), none⟩, false), (⟨(some 36), (.load (.tmp 8)), none⟩, false), (⟨(some 37), (.arith .add (.tmp 36) (.const (.int .i64 1))), none⟩, false), (⟨(some 38), (.idxAddr 1 (.tmp 35) (.tmp 37)), none⟩, false), (⟨(some 39), (.load (.tmp 38)), none⟩, false), (⟨(some 40), (.mov (.tmp 9)), none⟩, false), (⟨(some 41), (.idxAddr 1 (.tmp 39) (.tmp 40)), none⟩, false), (⟨(some 42), (.load (.tmp 41)), none⟩, false), (⟨(some 43), (.arith .add (.tmp 34) (.tmp 42)), none⟩, false), (⟨(some 44), (.load (.tmp 4)), none⟩, false), (⟨(some 45), (.load (.tmp 8)), none⟩, false), (⟨(some 46), (.idxAddr 1 (.tmp 44) (.tmp 45)), none⟩, false), (⟨(some 47), (.load (.tmp 46)), none⟩, false), (⟨(some 48), (.load (.tmp 5)), none⟩, false), (⟨(some 49), (.idxAddr 1 (.tmp 47) (.tmp 48)), none⟩, false), (⟨(some 50), (.load (.tmp 49)), none⟩, false), (⟨(some 51), (.cmp .eql (.tmp 43) (.tmp 50)), none⟩, false)]) (.cond (.tmp 51) (.seq (.ops [⟨(some 52), (.load (.tmp 7)), none⟩, ⟨(some 53), (.mov (.tmp 9)), none⟩, ⟨(some 54), (.buildSlice 1 1 [(.int .i64 0)] [(0, (1, (.tmp 53)))]), none⟩, ⟨(some 55), (.append 1 8 (.tmp 52) (.tmp 54)), none⟩, ⟨(some 56), (.mov (.tmp 9)), none⟩, ⟨none, (.store 1 (.tmp 7) (.tmp 55)), none⟩, ⟨none, (.store 1 (.tmp 5) (.tmp 56)), none⟩]) (.exit 2)) .skip)))))))) (.ops [⟨(some 57), (.arith .add (.tmp 14) (.const (.int .i64 1))), none⟩, ⟨(some 14), (.mov (.tmp 57)), none⟩]))))))) (.seq (.ops [⟨(some 58), (.load (.tmp 7)), none⟩, ⟨(some 6), (.mov (.tmp 58)), none⟩]) .ret)))), 59, [(.tmp 6)]⟩
theorem c31 : compileFn Go.Proofs.Try.prog Go.Proofs.Try.f31 = some R31 := by kernel_rfl
theorem n31 : R31.ntmps = 59 := rfl
theorem a31 {args : List Value} {H : AHeap} {Q : Value → AHeap → Prop} (h : AWP Go.Proofs.Try.prog none R31.code (Fin R31 Q) (args ++ List.replicate (R31.ntmps - args.length) undef) H) : ACall Go.Proofs.Try.prog 31 args H Q := acall_intro mo Go.Proofs.Try.func31 c31 h

def R32 : RFunc :=
  ⟨(.seq (.ops [⟨(some 4), (.mov (.const (.int .i64 0))), none⟩]) (.seq (.seq (.ops [⟨(some 6), (.mov (.tmp 0)), none⟩, ⟨(some 7), (.len (.tmp 6)), none⟩, ⟨(some 8), (.mov (.const (.int .i64 0))), none⟩]) (.block 0 (.loop (.seq (.ops [⟨(some 9), (.cmp .lss (.tmp 8) (.tmp 7)), none⟩]) (.seq (.cond (.tmp 9) .skip (.exit 0)) (.seq (.block 1 (.seq (.ops [⟨(some 10), (.mov (.tmp 8)), none⟩, ⟨(some 5), (.mov (.tmp 10)), none⟩]) (.seq (.ops [⟨(some 11), (.mov (.tmp 1)), none⟩, ⟨(some 12), (.mov (.tmp 0)), none⟩, ⟨(some 13), (.mov (.tmp 5)), none⟩, ⟨(some 14), (.idxAddr 1 (.tmp 12) (.tmp 13)), none⟩, ⟨(some 15), (.load (.tmp 14)), none⟩, ⟨(some 16), (.cmp .eql (.tmp 11) (.tmp 15)), none⟩]) (.cond (.tmp 16) (.seq (.ops [⟨(some 17), (.mov (.tmp 5)), none⟩, ⟨(some 4), (.mov (.tmp 17)), none⟩]) .ret) .skip)))) (.ops [⟨(some 18), (.arith .add (.tmp 8) (.const (.int .i64 1))), none⟩, ⟨(some 8), (.mov (.tmp 18)), none⟩]))))))) (.seq (.ops [⟨(some 4), (.mov (.const (.int .i64 (-1)))), none⟩]) .ret))), 19, [(.tmp 4)]⟩
theorem c32 : compileFn Go.Proofs.Try.prog Go.Proofs.Try.f32 = some R32 := by kernel_rfl
theorem n32 : R32.ntmps = 19 := rfl
theorem a32 {args : List Value} {H : AHeap} {Q : Value → AHeap → Prop} (h : AWP Go.Proofs.Try.prog none R32.code (Fin R32 Q) (args ++ List.replicate (R32.ntmps - args.length) undef) H) : ACall Go.Proofs.Try.prog 32 args H Q := acall_intro mo Go.Proofs.Try.func32 c32 h

def R33 : RFunc :=
  ⟨(.seq (.ops [⟨(some 4), (.mov (.const (.bool false))), none⟩]) (.seq (.ops [⟨(some 5), (.mov (.tmp 0)), none⟩, ⟨(some 6), (.mov (.tmp 1)), none⟩, ⟨(some 7), (.call (.func 43) [(.tmp 5), (.tmp 6)]), none⟩, ⟨(some 8), (.cmp .geq (.tmp 7) (.const (.int .i64 0))), none⟩, ⟨(some 4), (.mov (.tmp 8)), none⟩]) .ret)), 9, [(.tmp 4)]⟩
theorem c33 : compileFn Go.Proofs.Try.prog Go.Proofs.Try.f33 = some R33 := by kernel_rfl
theorem n33 : R33.ntmps = 9 := rfl
theorem a33 {args : List Value} {H : AHeap} {Q : Value → AHeap → Prop} (h : AWP Go.Proofs.Try.prog none R33.code (Fin R33 Q) (args ++ List.replicate (R33.ntmps - args.length) undef) H) : ACall Go.Proofs.Try.prog 33 args H Q := acall_intro mo Go.Proofs.Try.func33 c33 h

def R34 : RFunc :=
  ⟨(.seq (.ops [⟨(some 2), (.mov (.const (.bool false))), none⟩]) (.seq (.ops [⟨(some 3), (.mov (.tmp 0)), none⟩, ⟨(some 4), (.call (.func 24) [(.tmp 3), (.const (.int .i64 1000000))]), none⟩, ⟨(some 5), (.not (.tmp 4)), none⟩, ⟨(some 2), (.mov (.tmp 5)), none⟩]) .ret)), 6, [(.tmp 2)]⟩
theorem c34 : compileFn Go.Proofs.Try.prog Go.Proofs.Try.f34 = some R34 := by kernel_rfl
theorem n34 : R34.ntmps = 6 := rfl
theorem a34 {args : List Value} {H : AHeap} {Q : Value → AHeap → Prop} (h : AWP Go.Proofs.Try.prog none R34.code (Fin R34 Q) (args ++ List.replicate (R34.ntmps - args.length) undef) H) : ACall Go.Proofs.Try.prog 34 args H Q := acall_intro mo Go.Proofs.Try.func34 c34 h

def R35 : RFunc :=
  ⟨(.seq (.ops [⟨(some 6), (.mov (.const (.bool false))), none⟩]) (.seq (.ops [⟨(some 7), (.mov (.tmp 1)), none⟩, ⟨(some 8), (.mov (.tmp 0)), none⟩, ⟨(some 9), (.cmp .leq (.tmp 7) (.tmp 8)), none⟩, ⟨(some 10), (.mov (.tmp 9)), none⟩, ⟨(some 11), (.mov (.tmp 0)), (some (10, true))⟩, ⟨(some 12), (.mov (.tmp 2)), (some (10, true))⟩, ⟨(some 13), (.cmp .leq (.tmp 11) (.tmp 12)), (some (10, true))⟩, ⟨(some 14), (.pick (.tmp 10) (.tmp 13) (.const (.bool false))), none⟩, ⟨(some 6), (.mov (.tmp 14)), none⟩]) .ret)), 15, [(.tmp 6)]⟩
theorem c35 : compileFn Go.Proofs.Try.prog Go.Proofs.Try.f35 = some R35 := by kernel_rfl
theorem n35 : R35.ntmps = 15 := rfl
theorem a35 {args : List Value} {H : AHeap} {Q : Value → AHeap → Prop} (h : AWP Go.Proofs.Try.prog none R35.code (Fin R35 Q) (args ++ List.replicate (R35.ntmps - args.length) undef) H) : ACall Go.Proofs.Try.prog 35 args H Q := acall_intro mo Go.Proofs.Try.func35 c35 h

def R36 : RFunc :=
  ⟨(.seq (.ops [⟨(some 2), (.mov (.const (.int .i64 0))), none⟩]) (.seq (.ops [⟨(some 3), (.mov (.tmp 0)), none⟩, ⟨(some 4), (.call (.func 44) [(.tmp 3), (.const (.int .i64 40)), (.const (.int .i64 12)), (.const (.int .i64 255))]), none⟩, ⟨(some 2), (.mov (.tmp 4)), none⟩]) .ret)), 5, [(.tmp 2)]⟩
theorem c36 : compileFn Go.Proofs.Try.prog Go.Proofs.Try.f36 = some R36 := by kernel_rfl
theorem n36 : R36.ntmps = 5 := rfl
theorem a36 {args : List Value} {H : AHeap} {Q : Value → AHeap → Prop} (h : AWP Go.Proofs.Try.prog none R36.code (Fin R36 Q) (args ++ List.replicate (R36.ntmps - args.length) undef) H) : ACall Go.Proofs.Try.prog 36 args H Q := acall_intro mo Go.Proofs.Try.func36 c36 h

def R37 : RFunc :=
  ⟨(.seq (.ops [⟨(some 1), (.box (.tmp 0)), none⟩, ⟨(some 2), (.mov (.const .nilFunc)), none⟩]) (.seq (.ops [⟨(some 3), (.mkFunc (.func 45) [] [(.tmp 1)]), none⟩, ⟨(some 2), (.mov (.tmp 3)), none⟩]) .ret)), 4, [(.tmp 2)]⟩
theorem c37 : compileFn Go.Proofs.Try.prog Go.Proofs.Try.f37 = some R37 := by kernel_rfl
theorem n37 : R37.ntmps = 4 := rfl
theorem a37 {args : List Value} {H : AHeap} {Q : Value → AHeap → Prop} (h : AWP Go.Proofs.Try.prog none R37.code (Fin R37 Q) (args ++ List.replicate (R37.ntmps - args.length) undef) H) : ACall Go.Proofs.Try.prog 37 args H Q := acall_intro mo Go.Proofs.Try.func37 c37 h

def R38 : RFunc :=
  ⟨(.seq (.ops [⟨(some 4), (.mov (.const (.slice none 0 0))), none⟩]) (.seq (.seq (.ops [⟨(some 9), (.mov (.tmp 1)), none⟩, ⟨(some 10), (.cmp .lss (.tmp 9) (.const (.int .i64 0))), none⟩]) (.cond (.tmp 10) (.ops [⟨(some 11), (.iface 9 (.const (.string ⟨#[99, 97, 110, 110, 111, 116, 32, 98, 101, 32, 110, 101, 103, 97, 116, 105, 118, 101]⟩))), none⟩, ⟨none, (.extract (.const (.chan none)) 0), none⟩]) .skip)) (.seq (.ops [⟨(some 13), (.mov (.tmp 0)), none⟩, ⟨(some 14), (.len (.tmp 13)), none⟩, ⟨(some 15), (.conv .u64 (.tmp 14)), none⟩, ⟨(some 16), (.mov (.tmp 1)), none⟩, ⟨(some 17), (.conv .u64 (.tmp 16)), none⟩, ⟨(some 18), (.call (.func 46) [(.tmp 15), (.tmp 17)]), none⟩, ⟨(some 12), (.mov (.tmp 18)), none⟩, ⟨(some 19), (.extract (.tmp 12) 0), none⟩, ⟨(some 20), (.extract (.tmp 12) 1), none⟩, ⟨(some 5), (.mov (.tmp 19)), none⟩, ⟨(some 6), (.mov (.tmp 20)), none⟩]) (.seq (.seq (.ops [⟨(some 21), (.mov (.tmp 5)), none⟩, ⟨(some 22), (.cmp .gtr (.tmp 21) (.const (.int .u64 0))), none⟩, ⟨(some 23), (.mov (.tmp 22)), none⟩, ⟨(some 24), (.mov (.tmp 6)), (some (23, false))⟩, ⟨(some 25), (.cmp .gtr (.tmp 24) (.const (.int .u64 9223372036854775807))), (some (23, false))⟩, ⟨(some 26), (.pick (.tmp 23) (.const (.bool true)) (.tmp 25)), none⟩]) (.cond (.tmp 26) (.ops [⟨(some 27), (.iface 9 (.const (.string ⟨#[116, 104, 101, 32, 114, 101, 115, 117, 108, 116, 32, 111, 102, 32, 40, 108, 101, 110, 40, 120, 41, 32, 42, 32, 99, 111, 117, 110, 116, 41, 32, 111, 118, 101, 114, 102, 108, 111, 119, 115]⟩))), none⟩, ⟨none, (.extract (.const (.chan none)) 0), none⟩]) .skip)) (.seq (.ops [⟨(some 28), (.mov (.tmp 6)), none⟩, ⟨(some 29), (.conv .i64 (.tmp 28)), none⟩, ⟨(some 30), (.mkSlice 8 [(.int .i64 0)] (.tmp 29) (.tmp 29)), none⟩, ⟨(some 7), (.mov (.tmp 30)), none⟩]) (.seq (.ops [⟨(some 31), (.mov (.tmp 7)), none⟩, ⟨(some 32), (.mov (.tmp 0)), none⟩, ⟨(some 33), (.copy 1 (.tmp 31) (.tmp 32)), none⟩, ⟨(some 8), (.mov (.tmp 33)), none⟩]) (.seq (.block 0 (.loop (.seq (.seq (.ops [⟨(some 34), (.mov (.tmp 8)), none⟩, ⟨(some 35), (.mov (.tmp 7)), none⟩, ⟨(some 36), (.len (.tmp 35)), none⟩, ⟨(some 37), (.cmp .lss (.tmp 34) (.tmp 36)), none⟩]) (.cond (.tmp 37) .skip (.exit 0))) (.block 1 (.draw [(⟨(some 38), (.mov (.tmp 8)), none⟩, false), (⟨(some 39), (.mov (.tmp 7)), none⟩, false), (⟨(some 40), (.mov (.tmp 8)), none⟩, false), (⟨(some 41), (.slice 1 (.tmp 39) (some (.tmp 40)) none none), none⟩, false), (⟨(some 42), (.mov (.tmp 7)), none⟩, false), (⟨(some 43), (.mov (.tmp 8)), none⟩, false), (⟨(some 44), (.slice 1 (.tmp 42) none (some (.tmp 43)) none), none⟩, false), (⟨(some 45), (.copy 1 (.tmp 41) (.tmp 44)), none⟩, false), (⟨(some 46), (.arith .add (.tmp 38) (.tmp 45)), none⟩, false), (⟨(some 8), (.mov (.tmp 46)), none⟩, false)]))))) (.seq (.ops [⟨(some 47), (.mov (.tmp 7)), none⟩, ⟨(some 4), (.mov (.tmp 47)), none⟩]) .ret)))))))), 48, [(.tmp 4)]⟩
theorem c38 : compileFn Go.Proofs.Try.prog Go.Proofs.Try.f38 = some R38 := by kernel_rfl
theorem n38 : R38.ntmps = 48 := rfl
theorem a38 {args : List Value} {H : AHeap} {Q : Value → AHeap → Prop} (h : AWP Go.Proofs.Try.prog none R38.code (Fin R38 Q) (args ++ List.replicate (R38.ntmps - args.length) undef) H) : ACall Go.Proofs.Try.prog 38 args H Q := acall_intro mo Go.Proofs.Try.func38 c38 h

def R39 : RFunc :=
  ⟨(.seq (.ops [⟨(some 1), (.box (.tmp 0)), none⟩, ⟨(some 2), (.mov (.const (.int .i64 0))), none⟩]) (.seq (.ops [⟨(some 3), (.fieldAddr 0 (.tmp 1)), none⟩, ⟨(some 4), (.fieldAddr 0 (.tmp 3)), none⟩, ⟨(some 5), (.load (.tmp 4)), none⟩, ⟨(some 6), (.idxAddr 1 (.tmp 5) (.const (.int .i64 0))), none⟩, ⟨(some 7), (.load (.tmp 6)), none⟩, ⟨(some 8), (.len (.tmp 7)), none⟩, ⟨(some 2), (.mov (.tmp 8)), none⟩]) .ret)), 9, [(.tmp 2)]⟩
theorem c39 : compileFn Go.Proofs.Try.prog Go.Proofs.Try.f39 = some R39 := by kernel_rfl
theorem n39 : R39.ntmps = 9 := rfl
theorem a39 {args : List Value} {H : AHeap} {Q : Value → AHeap → Prop} (h : AWP Go.Proofs.Try.prog none R39.code (Fin R39 Q) (args ++ List.replicate (R39.ntmps - args.length) undef) H) : ACall Go.Proofs.Try.prog 39 args H Q := acall_intro mo Go.Proofs.Try.func39 c39 h

def R40 : RFunc :=
  ⟨(.seq (.ops [⟨(some 1), (.box (.tmp 0)), none⟩, ⟨(some 2), (.mov (.const (.int .i64 0))), none⟩]) (.seq (.ops [⟨(some 3), (.fieldAddr 0 (.tmp 1)), none⟩, ⟨(some 4), (.fieldAddr 0 (.tmp 3)), none⟩, ⟨(some 5), (.load (.tmp 4)), none⟩, ⟨(some 6), (.len (.tmp 5)), none⟩, ⟨(some 7), (.arith .sub (.tmp 6) (.const (.int .i64 1))), none⟩, ⟨(some 2), (.mov (.tmp 7)), none⟩]) .ret)), 8, [(.tmp 2)]⟩
theorem c40 : compileFn Go.Proofs.Try.prog Go.Proofs.Try.f40 = some R40 := by kernel_rfl
theorem n40 : R40.ntmps = 8 := rfl
theorem a40 {args : List Value} {H : AHeap} {Q : Value → AHeap → Prop} (h : AWP Go.Proofs.Try.prog none R40.code (Fin R40 Q) (args ++ List.replicate (R40.ntmps - args.length) undef) H) : ACall Go.Proofs.Try.prog 40 args H Q := acall_intro mo Go.Proofs.Try.func40 c40 h

def R41 : RFunc :=
  ⟨(.seq (.ops [⟨(some 2), (.box (.tmp 0)), none⟩, ⟨(some 3), (.box (.tmp 1)), none⟩, ⟨(some 4), (.mov (.const .nilFunc)), none⟩]) (.seq (.ops [⟨(some 5), (.mkFunc (.func 47) [] [(.tmp 3), (.tmp 2)]), none⟩, ⟨(some 4), (.mov (.tmp 5)), none⟩]) .ret)), 6, [(.tmp 4)]⟩
theorem c41 : compileFn Go.Proofs.Try.prog Go.Proofs.Try.f41 = some R41 := by kernel_rfl
theorem n41 : R41.ntmps = 6 := rfl
theorem a41 {args : List Value} {H : AHeap} {Q : Value → AHeap → Prop} (h : AWP Go.Proofs.Try.prog none R41.code (Fin R41 Q) (args ++ List.replicate (R41.ntmps - args.length) undef) H) : ACall Go.Proofs.Try.prog 41 args H Q := acall_intro mo Go.Proofs.Try.func41 c41 h

def R42 : RFunc :=
  ⟨(.seq (.ops [⟨(some 3), (.box (.tmp 0)), none⟩, ⟨(some 6), (.mov (.const (.int .i64 0))), none⟩]) (.seq (.seq (.ops [⟨(some 7), (.mov (.tmp 1)), none⟩, ⟨(some 8), (.mov (.tmp 2)), none⟩, ⟨(some 9), (.cmp .eql (.tmp 7) (.tmp 8)), none⟩]) (.cond (.tmp 9) (.seq (.ops [⟨(some 6), (.mov (.const (.int .i64 0))), none⟩]) .ret) .skip)) (.seq (.ops [⟨(some 10), (.fieldAddr 0 (.tmp 3)), none⟩, ⟨(some 11), (.fieldAddr 1 (.tmp 10)), none⟩, ⟨(some 12), (.load (.tmp 11)), none⟩, ⟨(some 6), (.mov (.tmp 12)), none⟩]) .ret))), 13, [(.tmp 6)]⟩
theorem c42 : compileFn Go.Proofs.Try.prog Go.Proofs.Try.f42 = some R42 := by kernel_rfl
theorem n42 : R42.ntmps = 13 := rfl
theorem a42 {args : List Value} {H : AHeap} {Q : Value → AHeap → Prop} (h : AWP Go.Proofs.Try.prog none R42.code (Fin R42 Q) (args ++ List.replicate (R42.ntmps - args.length) undef) H) : ACall Go.Proofs.Try.prog 42 args H Q := acall_intro mo Go.Proofs.Try.func42 c42 h

def R43 : RFunc :=
  ⟨(.seq (.ops [⟨(some 4), (.mov (.const (.int .i64 0))), none⟩]) (.seq (.seq (.ops [⟨(some 6), (.mov (.tmp 0)), none⟩, ⟨(some 7), (.len (.tmp 6)), none⟩, ⟨(some 8), (.mov (.const (.int .i64 0))), none⟩]) (.block 0 (.loop (.seq (.ops [⟨(some 9), (.cmp .lss (.tmp 8) (.tmp 7)), none⟩]) (.seq (.cond (.tmp 9) .skip (.exit 0)) (.seq (.block 1 (.seq (.ops [⟨(some 10), (.mov (.tmp 8)), none⟩, ⟨(some 5), (.mov (.tmp 10)), none⟩]) (.seq (.ops [⟨(some 11), (.mov (.tmp 1)), none⟩, ⟨(some 12), (.mov (.tmp 0)), none⟩, ⟨(some 13), (.mov (.tmp 5)), none⟩, ⟨(some 14), (.idxAddr 1 (.tmp 12) (.tmp 13)), none⟩, ⟨(some 15), (.load (.tmp 14)), none⟩, ⟨(some 16), (.call (.tmp 11) [(.tmp 15)]), none⟩]) (.cond (.tmp 16) (.seq (.ops [⟨(some 17), (.mov (.tmp 5)), none⟩, ⟨(some 4), (.mov (.tmp 17)), none⟩]) .ret) .skip)))) (.ops [⟨(some 18), (.arith .add (.tmp 8) (.const (.int .i64 1))), none⟩, ⟨(some 8), (.mov (.tmp 18)), none⟩]))))))) (.seq (.ops [⟨(some 4), (.mov (.const (.int .i64 (-1)))), none⟩]) .ret))), 19, [(.tmp 4)]⟩
theorem c43 : compileFn Go.Proofs.Try.prog Go.Proofs.Try.f43 = some R43 := by kernel_rfl
theorem n43 : R43.ntmps = 19 := rfl
theorem a43 {args : List Value} {H : AHeap} {Q : Value → AHeap → Prop} (h : AWP Go.Proofs.Try.prog none R43.code (Fin R43 Q) (args ++ List.replicate (R43.ntmps - args.length) undef) H) : ACall Go.Proofs.Try.prog 43 args H Q := acall_intro mo Go.Proofs.Try.func43 c43 h

def R44 : RFunc :=
  ⟨(.seq (.ops [⟨(some 7), (.box (.tmp 3)), none⟩, ⟨(some 8), (.mov (.const (.int .i64 0))), none⟩]) (.seq (.seq (.ops [⟨(some 13), (.mov (.tmp 0)), none⟩, ⟨(some 14), (.len (.tmp 13)), none⟩, ⟨(some 15), (.cmp .eql (.tmp 14) (.const (.int .i64 0))), none⟩, ⟨(some 16), (.mov (.tmp 15)), none⟩, ⟨(some 17), (.mov (.tmp 0)), (some (16, false))⟩, ⟨(some 18), (.idxAddr 1 (.tmp 17) (.const (.int .i64 0))), (some (16, false))⟩, ⟨(some 19), (.load (.tmp 18)), (some (16, false))⟩, ⟨(some 20), (.len (.tmp 19)), (some (16, false))⟩, ⟨(some 21), (.cmp .eql (.tmp 20) (.const (.int .i64 0))), (some (16, false))⟩, ⟨(some 22), (.pick (.tmp 16) (.const (.bool true)) (.tmp 21)), none⟩]) (.cond (.tmp 22) (.seq (.ops [⟨(some 8), (.mov (.const (.int .i64 10))), none⟩]) .ret) .skip)) (.seq (.seq (.ops [⟨(some 23), (.mov (.tmp 0)), none⟩, ⟨(some 24), (.len (.tmp 23)), none⟩, ⟨(some 25), (.mov (.tmp 1)), none⟩, ⟨(some 26), (.cmp .gtr (.tmp 24) (.tmp 25)), none⟩, ⟨(some 27), (.mov (.tmp 26)), none⟩, ⟨(some 28), (.mov (.tmp 0)), (some (27, false))⟩, ⟨(some 29), (.idxAddr 1 (.tmp 28) (.const (.int .i64 0))), (some (27, false))⟩, ⟨(some 30), (.load (.tmp 29)), (some (27, false))⟩, ⟨(some 31), (.len (.tmp 30)), (some (27, false))⟩, ⟨(some 32), (.mov (.tmp 2)), (some (27, false))⟩, ⟨(some 33), (.cmp .gtr (.tmp 31) (.tmp 32)), (some (27, false))⟩, ⟨(some 34), (.pick (.tmp 27) (.const (.bool true)) (.tmp 33)), none⟩]) (.cond (.tmp 34) (.seq (.ops [⟨(some 8), (.mov (.const (.int .i64 8))), none⟩]) .ret) .skip)) (.seq (.seq (.ops [⟨(some 35), (.mov (.tmp 0)), none⟩, ⟨(some 36), (.len (.tmp 35)), none⟩, ⟨(some 37), (.mov (.const (.int .i64 0))), none⟩]) (.block 0 (.loop (.seq (.ops [⟨(some 38), (.cmp .lss (.tmp 37) (.tmp 36)), none⟩]) (.seq (.cond (.tmp 38) .skip (.exit 0)) (.seq (.block 1 (.seq (.ops [⟨(some 39), (.idxAddr 1 (.tmp 35) (.tmp 37)), none⟩, ⟨(some 40), (.load (.tmp 39)), none⟩, ⟨(some 10), (.mov (.tmp 40)), none⟩]) (.seq (.ops [⟨(some 41), (.mov (.tmp 10)), none⟩, ⟨(some 42), (.mkFunc (.func 48) [] [(.tmp 7)]), none⟩, ⟨(some 43), (.call (.func 33) [(.tmp 41), (.tmp 42)]), none⟩, ⟨(some 11), (.mov (.tmp 43)), none⟩]) (.seq (.ops [⟨(some 44), (.mov (.tmp 10)), none⟩, ⟨(some 45), (.len (.tmp 44)), none⟩, ⟨(some 46), (.mov (.tmp 0)), none⟩, ⟨(some 47), (.idxAddr 1 (.tmp 46) (.const (.int .i64 0))), none⟩, ⟨(some 48), (.load (.tmp 47)), none⟩, ⟨(some 49), (.len (.tmp 48)), none⟩, ⟨(some 50), (.cmp .eql (.tmp 45) (.tmp 49)), none⟩, ⟨(some 51), (.call (.func 23) [(.tmp 50), (.const (.int .i64 10))]), none⟩, ⟨(some 52), (.mov (.tmp 11)), none⟩, ⟨(some 53), (.not (.tmp 52)), none⟩, ⟨(some 54), (.call (.func 23) [(.tmp 53), (.const (.int .i64 2))]), none⟩, ⟨(some 55), (.buildSlice 1 2 [(.int .i64 0), (.int .i64 0)] [(0, (1, (.tmp 51))), (1, (1, (.tmp 54)))]), none⟩, ⟨(some 56), (.call (.func 21) [(.tmp 55)]), none⟩, ⟨(some 12), (.mov (.tmp 56)), none⟩]) (.seq (.ops [⟨(some 57), (.mov (.tmp 12)), none⟩, ⟨(some 58), (.cmp .neq (.tmp 57) (.const (.int .i64 0))), none⟩]) (.cond (.tmp 58) (.seq (.ops [⟨(some 59), (.mov (.tmp 12)), none⟩, ⟨(some 8), (.mov (.tmp 59)), none⟩]) .ret) .skip)))))) (.ops [⟨(some 60), (.arith .add (.tmp 37) (.const (.int .i64 1))), none⟩, ⟨(some 37), (.mov (.tmp 60)), none⟩]))))))) (.seq (.ops [⟨(some 8), (.mov (.const (.int .i64 0))), none⟩]) .ret))))), 61, [(.tmp 8)]⟩
theorem c44 : compileFn Go.Proofs.Try.prog Go.Proofs.Try.f44 = some R44 := by kernel_rfl
theorem n44 : R44.ntmps = 61 := rfl
theorem a44 {args : List Value} {H : AHeap} {Q : Value → AHeap → Prop} (h : AWP Go.Proofs.Try.prog none R44.code (Fin R44 Q) (args ++ List.replicate (R44.ntmps - args.length) undef) H) : ACall Go.Proofs.Try.prog 44 args H Q := acall_intro mo Go.Proofs.Try.func44 c44 h

def R45 : RFunc :=
  ⟨(.seq (.ops [⟨(some 4), (.load (.tmp 1)), none⟩, ⟨(some 5), (.len (.tmp 4)), none⟩, ⟨(some 6), (.arith .sub (.tmp 5) (.const (.int .i64 1))), none⟩, ⟨(some 3), (.mov (.tmp 6)), none⟩]) (.block 0 (.loop (.seq (.seq (.ops [⟨(some 7), (.mov (.tmp 3)), none⟩, ⟨(some 8), (.cmp .geq (.tmp 7) (.const (.int .i64 0))), none⟩]) (.cond (.tmp 8) .skip (.exit 0))) (.seq (.block 1 (.seq (.ops [⟨(some 11), (.mov (.tmp 0)), none⟩, ⟨(some 12), (.mov (.tmp 3)), none⟩, ⟨(some 13), (.load (.tmp 1)), none⟩, ⟨(some 14), (.mov (.tmp 3)), none⟩, ⟨(some 15), (.idxAddr 1 (.tmp 13) (.tmp 14)), none⟩, ⟨(some 16), (.load (.tmp 15)), none⟩, ⟨(some 17), (.call (.tmp 11) [(.tmp 12), (.tmp 16)]), none⟩, ⟨(some 18), (.not (.tmp 17)), none⟩]) (.cond (.tmp 18) .ret .skip))) (.ops [⟨(some 9), (.mov (.tmp 3)), none⟩, ⟨(some 10), (.arith .sub (.tmp 9) (.const (.int .i64 1))), none⟩, ⟨(some 3), (.mov (.tmp 10)), none⟩])))))), 19, []⟩
theorem c45 : compileFn Go.Proofs.Try.prog Go.Proofs.Try.f45 = some R45 := by kernel_rfl
theorem n45 : R45.ntmps = 19 := rfl
theorem a45 {args : List Value} {H : AHeap} {Q : Value → AHeap → Prop} (h : AWP Go.Proofs.Try.prog none R45.code (Fin R45 Q) (args ++ List.replicate (R45.ntmps - args.length) undef) H) : ACall Go.Proofs.Try.prog 45 args H Q := acall_intro mo Go.Proofs.Try.func45 c45 h

def R46 : RFunc :=
  ⟨(.seq (.ops [⟨(some 4), (.mov (.const (.int .u64 0))), none⟩, ⟨(some 5), (.mov (.const (.int .u64 0))), none⟩]) (.seq (.cond (.const (.bool false)) (.seq (.ops [⟨(some 11), (.mov (.tmp 0)), none⟩, ⟨(some 12), (.conv .u32 (.tmp 11)), none⟩, ⟨(some 13), (.mov (.tmp 1)), none⟩, ⟨(some 14), (.conv .u32 (.tmp 13)), none⟩, ⟨(some 15), (.call (.func 49) [(.tmp 12), (.tmp 14)]), none⟩, ⟨(some 10), (.mov (.tmp 15)), none⟩, ⟨(some 16), (.extract (.tmp 10) 0), none⟩, ⟨(some 17), (.extract (.tmp 10) 1), none⟩, ⟨(some 6), (.mov (.tmp 16)), none⟩, ⟨(some 7), (.mov (.tmp 17)), none⟩]) (.seq (.ops [⟨(some 18), (.mov (.tmp 6)), none⟩, ⟨(some 19), (.conv .u64 (.tmp 18)), none⟩, ⟨(some 20), (.mov (.tmp 7)), none⟩, ⟨(some 21), (.conv .u64 (.tmp 20)), none⟩, ⟨(some 4), (.mov (.tmp 19)), none⟩, ⟨(some 5), (.mov (.tmp 21)), none⟩]) .ret)) .skip) (.seq (.ops [⟨(some 23), (.mov (.tmp 0)), none⟩, ⟨(some 24), (.mov (.tmp 1)), none⟩, ⟨(some 25), (.call (.func 50) [(.tmp 23), (.tmp 24)]), none⟩, ⟨(some 22), (.mov (.tmp 25)), none⟩, ⟨(some 26), (.extract (.tmp 22) 0), none⟩, ⟨(some 27), (.extract (.tmp 22) 1), none⟩, ⟨(some 8), (.mov (.tmp 26)), none⟩, ⟨(some 9), (.mov (.tmp 27)), none⟩]) (.seq (.ops [⟨(some 28), (.mov (.tmp 8)), none⟩, ⟨(some 29), (.mov (.tmp 9)), none⟩, ⟨(some 4), (.mov (.tmp 28)), none⟩, ⟨(some 5), (.mov (.tmp 29)), none⟩]) .ret)))), 30, [(.tmp 4), (.tmp 5)]⟩
theorem c46 : compileFn Go.Proofs.Try.prog Go.Proofs.Try.f46 = some R46 := by kernel_rfl
theorem n46 : R46.ntmps = 30 := rfl
theorem a46 {args : List Value} {H : AHeap} {Q : Value → AHeap → Prop} (h : AWP Go.Proofs.Try.prog none R46.code (Fin R46 Q) (args ++ List.replicate (R46.ntmps - args.length) undef) H) : ACall Go.Proofs.Try.prog 46 args H Q := acall_intro mo Go.Proofs.Try.func46 c46 h

def R47 : RFunc :=
  ⟨(.seq (.ops [⟨(some 5), (.load (.tmp 1)), none⟩, ⟨(some 6), (.arith .sub (.tmp 5) (.const (.int .i64 1))), none⟩, ⟨(some 7), (.most true (.const (.int .i64 0)) [(.tmp 6)]), none⟩, ⟨(some 4), (.mov (.tmp 7)), none⟩]) (.block 0 (.loop (.seq (.seq (.draw [(⟨(some 8), (.mov (.tmp 4)), none⟩, false), (⟨(some 9), (.load (.tmp 1)), none⟩, false), (⟨(some 10), (.arith .add (.tmp 9) (.const (.int .i64 1))), none⟩, false), (⟨(some 11), (.loadN 2 (.tmp 2)), none⟩, false), (⟨(some 12), (.call (.func 39) [(.tmp 11)]), none⟩, false), (⟨(some 13), (.arith .sub (.tmp 12) (.const (.int .i64 1))), none⟩, false), (⟨(some 14), (.most false (.tmp 10) [(.tmp 13)]), none⟩, false), (⟨(some 15), (.cmp .leq (.tmp 8) (.tmp 14)), none⟩, false)]) (.cond (.tmp 15) .skip (.exit 0))) (.seq (.block 1 (.seq (.ops [⟨(some 18), (.mov (.tmp 0)), none⟩, ⟨(some 19), (.mov (.tmp 4)), none⟩, ⟨(some 20), (.call (.tmp 18) [(.tmp 19)]), none⟩, ⟨(some 21), (.not (.tmp 20)), none⟩]) (.cond (.tmp 21) .ret .skip))) (.ops [⟨(some 16), (.mov (.tmp 4)), none⟩, ⟨(some 17), (.arith .add (.tmp 16) (.const (.int .i64 1))), none⟩, ⟨(some 4), (.mov (.tmp 17)), none⟩])))))), 22, []⟩
theorem c47 : compileFn Go.Proofs.Try.prog Go.Proofs.Try.f47 = some R47 := by kernel_rfl
theorem n47 : R47.ntmps = 22 := rfl
theorem a47 {args : List Value} {H : AHeap} {Q : Value → AHeap → Prop} (h : AWP Go.Proofs.Try.prog none R47.code (Fin R47 Q) (args ++ List.replicate (R47.ntmps - args.length) undef) H) : ACall Go.Proofs.Try.prog 47 args H Q := acall_intro mo Go.Proofs.Try.func47 c47 h

def R48 : RFunc :=
  ⟨(.seq (.ops [⟨(some 3), (.mov (.const (.bool false))), none⟩]) (.seq (.ops [⟨(some 4), (.mov (.tmp 0)), none⟩, ⟨(some 5), (.load (.tmp 1)), none⟩, ⟨(some 6), (.call (.func 35) [(.tmp 4), (.const (.int .i64 0)), (.tmp 5)]), none⟩, ⟨(some 7), (.not (.tmp 6)), none⟩, ⟨(some 3), (.mov (.tmp 7)), none⟩]) .ret)), 8, [(.tmp 3)]⟩
theorem c48 : compileFn Go.Proofs.Try.prog Go.Proofs.Try.f48 = some R48 := by kernel_rfl
theorem n48 : R48.ntmps = 8 := rfl
theorem a48 {args : List Value} {H : AHeap} {Q : Value → AHeap → Prop} (h : AWP Go.Proofs.Try.prog none R48.code (Fin R48 Q) (args ++ List.replicate (R48.ntmps - args.length) undef) H) : ACall Go.Proofs.Try.prog 48 args H Q := acall_intro mo Go.Proofs.Try.func48 c48 h

def R49 : RFunc :=
  ⟨(.seq (.ops [⟨(some 4), (.mov (.const (.int .u32 0))), none⟩, ⟨(some 5), (.mov (.const (.int .u32 0))), none⟩]) (.seq (.ops [⟨(some 7), (.mov (.tmp 0)), none⟩, ⟨(some 8), (.conv .u64 (.tmp 7)), none⟩, ⟨(some 9), (.mov (.tmp 1)), none⟩, ⟨(some 10), (.conv .u64 (.tmp 9)), none⟩, ⟨(some 11), (.arith .mul (.tmp 8) (.tmp 10)), none⟩, ⟨(some 6), (.mov (.tmp 11)), none⟩]) (.seq (.ops [⟨(some 12), (.mov (.tmp 6)), none⟩, ⟨(some 13), (.shr (.tmp 12) (.const (.int .u64 32))), none⟩, ⟨(some 14), (.conv .u32 (.tmp 13)), none⟩, ⟨(some 15), (.mov (.tmp 6)), none⟩, ⟨(some 16), (.conv .u32 (.tmp 15)), none⟩, ⟨(some 4), (.mov (.tmp 14)), none⟩, ⟨(some 5), (.mov (.tmp 16)), none⟩]) .ret))), 17, [(.tmp 4), (.tmp 5)]⟩
theorem c49 : compileFn Go.Proofs.Try.prog Go.Proofs.Try.f49 = some R49 := by kernel_rfl
theorem n49 : R49.ntmps = 17 := rfl
theorem a49 {args : List Value} {H : AHeap} {Q : Value → AHeap → Prop} (h : AWP Go.Proofs.Try.prog none R49.code (Fin R49 Q) (args ++ List.replicate (R49.ntmps - args.length) undef) H) : ACall Go.Proofs.Try.prog 49 args H Q := acall_intro mo Go.Proofs.Try.func49 c49 h

def R50 : RFunc :=
  ⟨(.seq (.ops [⟨(some 4), (.mov (.const (.int .u64 0))), none⟩, ⟨(some 5), (.mov (.const (.int .u64 0))), none⟩]) (.seq (.ops [⟨(some 14), (.mov (.tmp 0)), none⟩, ⟨(some 15), (.band (.tmp 14) (.const (.int .u64 4294967295))), none⟩, ⟨(some 6), (.mov (.tmp 15)), none⟩]) (.seq (.ops [⟨(some 16), (.mov (.tmp 0)), none⟩, ⟨(some 17), (.shr (.tmp 16) (.const (.int .u64 32))), none⟩, ⟨(some 7), (.mov (.tmp 17)), none⟩]) (.seq (.ops [⟨(some 18), (.mov (.tmp 1)), none⟩, ⟨(some 19), (.band (.tmp 18) (.const (.int .u64 4294967295))), none⟩, ⟨(some 8), (.mov (.tmp 19)), none⟩]) (.seq (.ops [⟨(some 20), (.mov (.tmp 1)), none⟩, ⟨(some 21), (.shr (.tmp 20) (.const (.int .u64 32))), none⟩, ⟨(some 9), (.mov (.tmp 21)), none⟩]) (.seq (.ops [⟨(some 22), (.mov (.tmp 6)), none⟩, ⟨(some 23), (.mov (.tmp 8)), none⟩, ⟨(some 24), (.arith .mul (.tmp 22) (.tmp 23)), none⟩, ⟨(some 10), (.mov (.tmp 24)), none⟩]) (.seq (.ops [⟨(some 25), (.mov (.tmp 7)), none⟩, ⟨(some 26), (.mov (.tmp 8)), none⟩, ⟨(some 27), (.arith .mul (.tmp 25) (.tmp 26)), none⟩, ⟨(some 28), (.mov (.tmp 10)), none⟩, ⟨(some 29), (.shr (.tmp 28) (.const (.int .u64 32))), none⟩, ⟨(some 30), (.arith .add (.tmp 27) (.tmp 29)), none⟩, ⟨(some 11), (.mov (.tmp 30)), none⟩]) (.seq (.ops [⟨(some 31), (.mov (.tmp 11)), none⟩, ⟨(some 32), (.band (.tmp 31) (.const (.int .u64 4294967295))), none⟩, ⟨(some 12), (.mov (.tmp 32)), none⟩]) (.seq (.ops [⟨(some 33), (.mov (.tmp 11)), none⟩, ⟨(some 34), (.shr (.tmp 33) (.const (.int .u64 32))), none⟩, ⟨(some 13), (.mov (.tmp 34)), none⟩]) (.seq (.ops [⟨(some 35), (.mov (.tmp 12)), none⟩, ⟨(some 36), (.mov (.tmp 6)), none⟩, ⟨(some 37), (.mov (.tmp 9)), none⟩, ⟨(some 38), (.arith .mul (.tmp 36) (.tmp 37)), none⟩, ⟨(some 39), (.arith .add (.tmp 35) (.tmp 38)), none⟩, ⟨(some 12), (.mov (.tmp 39)), none⟩]) (.seq (.ops [⟨(some 40), (.mov (.tmp 7)), none⟩, ⟨(some 41), (.mov (.tmp 9)), none⟩, ⟨(some 42), (.arith .mul (.tmp 40) (.tmp 41)), none⟩, ⟨(some 43), (.mov (.tmp 13)), none⟩, ⟨(some 44), (.arith .add (.tmp 42) (.tmp 43)), none⟩, ⟨(some 45), (.mov (.tmp 12)), none⟩, ⟨(some 46), (.shr (.tmp 45) (.const (.int .u64 32))), none⟩, ⟨(some 47), (.arith .add (.tmp 44) (.tmp 46)), none⟩, ⟨(some 4), (.mov (.tmp 47)), none⟩]) (.seq (.ops [⟨(some 48), (.mov (.tmp 0)), none⟩, ⟨(some 49), (.mov (.tmp 1)), none⟩, ⟨(some 50), (.arith .mul (.tmp 48) (.tmp 49)), none⟩, ⟨(some 5), (.mov (.tmp 50)), none⟩]) .ret)))))))))))), 51, [(.tmp 4), (.tmp 5)]⟩
theorem c50 : compileFn Go.Proofs.Try.prog Go.Proofs.Try.f50 = some R50 := by kernel_rfl
theorem n50 : R50.ntmps = 51 := rfl
theorem a50 {args : List Value} {H : AHeap} {Q : Value → AHeap → Prop} (h : AWP Go.Proofs.Try.prog none R50.code (Fin R50 Q) (args ++ List.replicate (R50.ntmps - args.length) undef) H) : ACall Go.Proofs.Try.prog 50 args H Q := acall_intro mo Go.Proofs.Try.func50 c50 h

end Go.Lq

namespace Go.Lq
open Go

def tabA : List (Nat × RFunc) :=
  [(4, R4), (12, R12), (13, R13), (14, R14), (15, R15), (21, R21), (23, R23), (24, R24), (25, R25), (26, R26), (27, R27), (28, R28), (29, R29), (30, R30), (31, R31), (32, R32), (33, R33), (35, R35), (36, R36), (37, R37), (38, R38), (39, R39), (40, R40), (41, R41), (42, R42), (43, R43), (44, R44), (45, R45), (46, R46), (47, R47), (48, R48), (49, R49), (50, R50)]

def TA (f : Nat) : Option RFunc := (tabA.find? (fun p => p.1 == f)).map (·.2)

theorem soundTA : SoundT Go.Proofs.Try.prog TA := by
  intro f rf h
  have key : ∀ p ∈ tabA, ∃ fn, Go.Proofs.Try.prog.funcs[p.1]? = some fn ∧ compileFn Go.Proofs.Try.prog fn = some p.2 := by
    unfold tabA
    refine List.forall_mem_cons.2 ⟨⟨_, Go.Proofs.Try.func4, c4⟩, List.forall_mem_cons.2 ⟨⟨_, Go.Proofs.Try.func12, c12⟩, List.forall_mem_cons.2 ⟨⟨_, Go.Proofs.Try.func13, c13⟩, List.forall_mem_cons.2 ⟨⟨_, Go.Proofs.Try.func14, c14⟩, List.forall_mem_cons.2 ⟨⟨_, Go.Proofs.Try.func15, c15⟩, List.forall_mem_cons.2 ⟨⟨_, Go.Proofs.Try.func21, c21⟩, List.forall_mem_cons.2 ⟨⟨_, Go.Proofs.Try.func23, c23⟩, List.forall_mem_cons.2 ⟨⟨_, Go.Proofs.Try.func24, c24⟩, List.forall_mem_cons.2 ⟨⟨_, Go.Proofs.Try.func25, c25⟩, List.forall_mem_cons.2 ⟨⟨_, Go.Proofs.Try.func26, c26⟩, List.forall_mem_cons.2 ⟨⟨_, Go.Proofs.Try.func27, c27⟩, List.forall_mem_cons.2 ⟨⟨_, Go.Proofs.Try.func28, c28⟩, List.forall_mem_cons.2 ⟨⟨_, Go.Proofs.Try.func29, c29⟩, List.forall_mem_cons.2 ⟨⟨_, Go.Proofs.Try.func30, c30⟩, List.forall_mem_cons.2 ⟨⟨_, Go.Proofs.Try.func31, c31⟩, List.forall_mem_cons.2 ⟨⟨_, Go.Proofs.Try.func32, c32⟩, List.forall_mem_cons.2 ⟨⟨_, Go.Proofs.Try.func33, c33⟩, List.forall_mem_cons.2 ⟨⟨_, Go.Proofs.Try.func35, c35⟩, List.forall_mem_cons.2 ⟨⟨_, Go.Proofs.Try.func36, c36⟩, List.forall_mem_cons.2 ⟨⟨_, Go.Proofs.Try.func37, c37⟩, List.forall_mem_cons.2 ⟨⟨_, Go.Proofs.Try.func38, c38⟩, List.forall_mem_cons.2 ⟨⟨_, Go.Proofs.Try.func39, c39⟩, List.forall_mem_cons.2 ⟨⟨_, Go.Proofs.Try.func40, c40⟩, List.forall_mem_cons.2 ⟨⟨_, Go.Proofs.Try.func41, c41⟩, List.forall_mem_cons.2 ⟨⟨_, Go.Proofs.Try.func42, c42⟩, List.forall_mem_cons.2 ⟨⟨_, Go.Proofs.Try.func43, c43⟩, List.forall_mem_cons.2 ⟨⟨_, Go.Proofs.Try.func44, c44⟩, List.forall_mem_cons.2 ⟨⟨_, Go.Proofs.Try.func45, c45⟩, List.forall_mem_cons.2 ⟨⟨_, Go.Proofs.Try.func46, c46⟩, List.forall_mem_cons.2 ⟨⟨_, Go.Proofs.Try.func47, c47⟩, List.forall_mem_cons.2 ⟨⟨_, Go.Proofs.Try.func48, c48⟩, List.forall_mem_cons.2 ⟨⟨_, Go.Proofs.Try.func49, c49⟩, List.forall_mem_cons.2 ⟨⟨_, Go.Proofs.Try.func50, c50⟩, fun p hp => by cases hp⟩⟩⟩⟩⟩⟩⟩⟩⟩⟩⟩⟩⟩⟩⟩⟩⟩⟩⟩⟩⟩⟩⟩⟩⟩⟩⟩⟩⟩⟩⟩⟩⟩
  simp only [TA, Option.map_eq_some_iff] at h
  obtain ⟨p, hp, rfl⟩ := h
  have hm := List.mem_of_find?_eq_some hp
  have hf := List.find?_some hp
  have : p.1 = f := by simpa using hf
  subst this
  exact key p hm

def colO (fv : Value) (args : List Value) (B : AHeap) : Option Value :=
  match fv, args with
  | .func (.func 39) ⟨[]⟩ ⟨[]⟩, [.agg ⟨[.slice (some ⟨id, off, none⟩) (_ + 1) _, .int _ _]⟩] =>
    match cellAt B id off with | some (.slice _ m _) => some (.int .i64 m) | _ => none
  | _, _ => none

end Go.Lq

namespace Go.Lq
open Go
def nth : Nat → RCode → RCode
  | 0, .seq a _ => a
  | n + 1, .seq _ b => nth n b
  | _, c => c
def H0 : AHeap := []
def E0 : Env := List.replicate 45 undef
end Go.Lq

namespace Go.Lq
open Go

def E1 : Env :=
  [(.bool false), (.tuple #[]), (.tuple #[]), (.tuple #[]), (.tuple #[]), (.tuple #[]), (.tuple #[]), (.tuple #[]), (.tuple #[]), (.tuple #[]), (.tuple #[]), (.tuple #[]), (.tuple #[]), (.tuple #[]), (.tuple #[]), (.tuple #[]), (.tuple #[]), (.tuple #[]), (.tuple #[]), (.tuple #[]), (.tuple #[]), (.tuple #[]), (.tuple #[]), (.tuple #[]), (.tuple #[]), (.tuple #[]), (.tuple #[]), (.tuple #[]), (.tuple #[]), (.tuple #[]), (.tuple #[]), (.tuple #[]), (.tuple #[]), (.tuple #[]), (.tuple #[]), (.tuple #[]), (.tuple #[]), (.tuple #[]), (.tuple #[]), (.tuple #[]), (.tuple #[]), (.tuple #[]), (.tuple #[]), (.tuple #[]), (.tuple #[])]
def H1 : AHeap :=
  []
def E2 : Env :=
  [(.bool false), (.slice (some ⟨5, 0, none⟩) 3 3), (.int .i64 5), (.int .i64 0), (.tuple #[]), (.tuple #[]), (.tuple #[(.slice (some ⟨5, 0, none⟩) 3 3), (.int .i64 5), (.int .i64 0)]), (.agg #[(.slice (some ⟨4, 0, none⟩) 3 3), (.int .i64 1)]), (.tuple #[(.slice (some ⟨5, 0, none⟩) 3 3), (.int .i64 5), (.int .i64 0)]), (.slice (some ⟨5, 0, none⟩) 3 3), (.int .i64 5), (.int .i64 0), (.tuple #[]), (.tuple #[]), (.tuple #[]), (.tuple #[]), (.tuple #[]), (.tuple #[]), (.tuple #[]), (.tuple #[]), (.tuple #[]), (.tuple #[]), (.tuple #[]), (.tuple #[]), (.tuple #[]), (.tuple #[]), (.tuple #[]), (.tuple #[]), (.tuple #[]), (.tuple #[]), (.tuple #[]), (.tuple #[]), (.tuple #[]), (.tuple #[]), (.tuple #[]), (.tuple #[]), (.tuple #[]), (.tuple #[]), (.tuple #[]), (.tuple #[]), (.tuple #[]), (.tuple #[]), (.tuple #[]), (.tuple #[]), (.tuple #[])]
def H2 : AHeap :=
  [(.cells true 0 [(.slice (some ⟨4, 0, none⟩) 3 3), (.int .i64 1)]), (.cells true 1 [(.int .i64 5), (.int .i64 1), (.int .i64 9)]), (.cells true 1 [(.int .i64 4), (.int .i64 4), (.int .i64 0)]), (.cells true 1 [(.int .i64 7), (.int .i64 2), (.int .i64 3)]), (.cells true 1 [(.slice (some ⟨1, 0, none⟩) 3 3), (.slice (some ⟨2, 0, none⟩) 3 3), (.slice (some ⟨3, 0, none⟩) 3 3)]), (.cells true 1 [(.int .i64 1), (.int .i64 2), (.int .i64 1)])]
def E3 : Env :=
  [(.bool false), (.slice (some ⟨5, 0, none⟩) 3 3), (.int .i64 5), (.int .i64 0), (.slice (some ⟨7, 0, none⟩) 1 1), (.int .i64 0), (.tuple #[(.slice (some ⟨5, 0, none⟩) 3 3), (.int .i64 5), (.int .i64 0)]), (.agg #[(.slice (some ⟨4, 0, none⟩) 3 3), (.int .i64 1)]), (.tuple #[(.slice (some ⟨5, 0, none⟩) 3 3), (.int .i64 5), (.int .i64 0)]), (.slice (some ⟨5, 0, none⟩) 3 3), (.int .i64 5), (.int .i64 0), (.tuple #[(.slice (some ⟨7, 0, none⟩) 1 1), (.int .i64 0)]), (.agg #[(.int .i64 11), (.int .i64 5)]), (.slice (some ⟨6, 0, none⟩) 1 1), (.tuple #[(.slice (some ⟨7, 0, none⟩) 1 1), (.int .i64 0)]), (.slice (some ⟨7, 0, none⟩) 1 1), (.int .i64 0), (.tuple #[]), (.tuple #[]), (.tuple #[]), (.tuple #[]), (.tuple #[]), (.tuple #[]), (.tuple #[]), (.tuple #[]), (.tuple #[]), (.tuple #[]), (.tuple #[]), (.tuple #[]), (.tuple #[]), (.tuple #[]), (.tuple #[]), (.tuple #[]), (.tuple #[]), (.tuple #[]), (.tuple #[]), (.tuple #[]), (.tuple #[]), (.tuple #[]), (.tuple #[]), (.tuple #[]), (.tuple #[]), (.tuple #[]), (.tuple #[])]
def H3 : AHeap :=
  [(.cells true 0 [(.slice (some ⟨4, 0, none⟩) 3 3), (.int .i64 1)]), (.cells true 1 [(.int .i64 5), (.int .i64 1), (.int .i64 9)]), (.cells true 1 [(.int .i64 4), (.int .i64 4), (.int .i64 0)]), (.cells true 1 [(.int .i64 7), (.int .i64 2), (.int .i64 3)]), (.cells true 1 [(.slice (some ⟨1, 0, none⟩) 3 3), (.slice (some ⟨2, 0, none⟩) 3 3), (.slice (some ⟨3, 0, none⟩) 3 3)]), (.cells true 1 [(.int .i64 1), (.int .i64 2), (.int .i64 1)]), (.cells true 2 [(.int .i64 11), (.int .i64 5)]), (.cells true 2 [(.int .i64 3), (.int .i64 8)])]
def E4 : Env :=
  [(.bool true), (.slice (some ⟨5, 0, none⟩) 3 3), (.int .i64 5), (.int .i64 0), (.slice (some ⟨7, 0, none⟩) 1 1), (.int .i64 0), (.tuple #[(.slice (some ⟨5, 0, none⟩) 3 3), (.int .i64 5), (.int .i64 0)]), (.agg #[(.slice (some ⟨4, 0, none⟩) 3 3), (.int .i64 1)]), (.tuple #[(.slice (some ⟨5, 0, none⟩) 3 3), (.int .i64 5), (.int .i64 0)]), (.slice (some ⟨5, 0, none⟩) 3 3), (.int .i64 5), (.int .i64 0), (.tuple #[(.slice (some ⟨7, 0, none⟩) 1 1), (.int .i64 0)]), (.agg #[(.int .i64 11), (.int .i64 5)]), (.slice (some ⟨6, 0, none⟩) 1 1), (.tuple #[(.slice (some ⟨7, 0, none⟩) 1 1), (.int .i64 0)]), (.slice (some ⟨7, 0, none⟩) 1 1), (.int .i64 0), (.int .i64 0), (.bool true), (.bool true), (.int .i64 5), (.bool true), (.bool true), (.bool true), (.slice (some ⟨5, 0, none⟩) 3 3), (.slice (some ⟨8, 0, none⟩) 3 3), (.bool true), (.bool true), (.bool true), (.int .i64 0), (.bool true), (.bool true), (.bool true), (.slice (some ⟨7, 0, none⟩) 1 1), (.int .i64 1), (.bool true), (.bool true), (.bool true), (.slice (some ⟨7, 0, none⟩) 1 1), (.pointer (some ⟨7, 0, none⟩)), (.agg #[(.int .i64 3), (.int .i64 8)]), (.agg #[(.int .i64 3), (.int .i64 8)]), (.bool true), (.bool true)]
def H4 : AHeap :=
  [(.cells true 0 [(.slice (some ⟨4, 0, none⟩) 3 3), (.int .i64 1)]), (.cells true 1 [(.int .i64 5), (.int .i64 1), (.int .i64 9)]), (.cells true 1 [(.int .i64 4), (.int .i64 4), (.int .i64 0)]), (.cells true 1 [(.int .i64 7), (.int .i64 2), (.int .i64 3)]), (.cells true 1 [(.slice (some ⟨1, 0, none⟩) 3 3), (.slice (some ⟨2, 0, none⟩) 3 3), (.slice (some ⟨3, 0, none⟩) 3 3)]), (.cells true 1 [(.int .i64 1), (.int .i64 2), (.int .i64 1)]), (.cells true 2 [(.int .i64 11), (.int .i64 5)]), (.cells true 2 [(.int .i64 3), (.int .i64 8)]), (.cells true 1 [(.int .i64 1), (.int .i64 2), (.int .i64 1)])]
theorem awake0 : run TA colO 400 (.code (nth 0 R4.code) none E0) H0 = some (.normal, E1, H1, 1000000000000) := by kernel_rfl
theorem awake1 : run TA colO 400 (.code (nth 1 R4.code) none E1) H1 = some (.normal, E2, H2, 0) := by kernel_rfl
theorem awake2 : run TA colO 400 (.code (nth 2 R4.code) none E2) H2 = some (.normal, E3, H3, 1000000000000) := by kernel_rfl
theorem awake3 : run TA colO 400 (.code (nth 3 R4.code) none E3) H3 = some (.normal, E4, H4, 1000000000000) := by kernel_rfl
end Go.Lq

namespace Go.Lq
open Go

theorem soundO : SoundO Go.Proofs.Try.prog colO := by
  intro fv args B v h N
  unfold colO at h
  split at h
  · rename_i id off m' c' k b
    split at h
    · rename_i ad m c hc
      cases h
      show ACall _ _ _ _ _
      refine ACall.drop (.int _ _) ?_
      have hx : Ext B ((B ++ N) ++ [.cells true 0 [.slice (some ⟨id, off, none⟩) (m' + 1) c', .int k b]]) := ((Ext.refl B).app N).app _
      have hld : ∀ G, Ext B G → loadR (.pointer (some ⟨id, off, none⟩)) G = some (.slice ad m c, G) := fun G hx => by
        simp only [loadR, cellAt_ext hx hc, Option.map_some]
      have hbx : boxR (.agg ⟨[.slice (some ⟨id, off, none⟩) (m' + 1) c', .int k b]⟩) (B ++ N) = some (.pointer (some ⟨(B ++ N).length, 0, none⟩), (B ++ N) ++ [.cells true 0 [.slice (some ⟨id, off, none⟩) (m' + 1) c', .int k b]]) := rfl
      have hl0 : ∀ o, loadR (.pointer (some ⟨(B ++ N).length, 0, none⟩)) ((B ++ N) ++ [.cells true 0 (.slice (some ⟨id, off, none⟩) (m' + 1) c' :: o)]) = some (.slice (some ⟨id, off, none⟩) (m' + 1) c', (B ++ N) ++ [.cells true 0 (.slice (some ⟨id, off, none⟩) (m' + 1) c' :: o)]) := fun o => by
        unfold loadR cellAt
        simp only
        rw [List.getElem?_append_right (Nat.le_refl _), Nat.sub_self]
        rfl
      have hix : ∀ H, idxR 1 (.slice (some ⟨id, off, none⟩) (m' + 1) c') (.int .i64 0) H = some (.pointer (some ⟨id, off, none⟩), H) := fun H => by
        simp only [idxR]; rw [if_pos ⟨by omega, by omega⟩]; rfl
      (refine a39 ?_; simp only [n39, List.replicate, List.length_cons, List.length_nil, List.cons_append, List.nil_append]; first | refine Go.Lq.q1 ?_ | refine Go.Lq.q2 ?_ | refine Go.Lq.q6 ?_ | refine Go.Lq.q7 ?_ | refine Go.Lq.qh rfl ?_ | skip)
      refine yx ?_; (refine aops_until (by simp (disch := first|exact zz|fail) only [go_sem, hbx]; with_reducible rfl) ?_); refine yx ?_; (refine aops_until (by simp (disch := first|exact zz|fail) only [go_sem, hl0, hix, hld _ hx, Nat.zero_add, Nat.add_zero]; with_reducible rfl) ?_); refine yx ?_
      exact fin_1 ⟨rfl, ⟨_, rfl⟩⟩
    · cases h
  · cases h

theorem awp_run {n : Nat} {c : RCode} {ar : Option Nat} {e e' : Env} {H H' : AHeap} {x : AExit} {lo : Nat} {Q : AExit → Env → AHeap → Prop}
    (h : run TA colO n (.code c ar e) H = some (x, e', H', lo)) (k : Q x e' H') : AWP Go.Proofs.Try.prog ar c Q e H :=
  CodeSound.awp (run_sound mo soundTA soundO n _ _ _ _ _ _ h).2 k

theorem awake0_c : ACall Go.Proofs.Try.prog 4 [] H0 fun v H => v = .bool true ∧ H = H0 := by
  refine ACall.drop (.bool _) ?_
  refine a4 ?_
  show AWP _ _ _ _ E0 H0
  refine awp_seq (awp_run awake0 ?_)
  refine awp_seq (awp_run awake1 ?_)
  refine awp_seq (awp_run awake2 ?_)
  refine awp_seq (awp_run awake3 ?_)
  refine awp_ret ?_
  refine fin_1 ⟨rfl, ?_⟩
  exact ⟨H4, rfl⟩

theorem own0 : OwnHeap H0 := by
  intro i x hx
  simp [H0] at hx

theorem globals_size : Go.Proofs.Try.prog.globals.size = 0 := by kernel_rfl

theorem shown_c {H : AHeap} : ACall Go.Proofs.Try.prog 4 [] H fun v H' => v = .bool true ∧ H' = H := by
  have := ACall.frame (by rw [globals_size]; decide) own0 (fun x hx => by cases hx) (.bool _) awake0_c H
  simpa [H0] using this
end Go.Lq

namespace Go.Lq
open Go Go.ChangeShapes Go.WideShapes Go.ChangeAt Go.RowKit
open Go.Proofs

theorem returnsInHanded_of_plain_shaped {Z : Type} {enc : TypeId × Value → Z} {a : Assume} {C : Checked} {os : Os} {f : FuncId} {fn : Func} {s : ChangeSpec} {conds : List PathCond} {apart fresh handsOn again : Bool}
    (own : ownKnob C.prog.godebug = none) (started : os.Started) (noInit : C.prog.inits.idxOf? f = none) (hfn : C.prog.funcs[f]? = some fn)
    (witness : ∃ (w : World) (tape : Tape) (i : Input), w.os = os ∧ (w.forCall tape i).Shaped C.prog ∧ i.vars = [] ∧ Input.okWide C.prog (w.forCall tape i) .any w.heap.size f i ∧
      s.pre6 enc C.prog fn conds apart (w.forCall tape i).memory i.args ∧ a.holds C.prog (lone (Frame.enter C.prog f i.args .normal) [] (w.forCall tape i)))
    (contract : ∀ (W : World) (base : Nat) (args : Array Value) (ds gs : List (DataW Z)) (before : List MemPlace), W.ShapedOpen C.prog →
      (∀ (j : Nat) t v, fn.params[j]? = some t → args[j]? = some v → Value.okWide C.prog W .any base t v) →
      DataW.Whole enc C.prog fn.params.toList s.vars apart W args.toList ds gs before →
      Calls C.prog f args W fun e W' => ∃ v, e = .returned v ∧ s.post enc C.prog fn apart fresh handsOn again W args v W') :
    ReturnsInHanded a C os f .any (s.pre6 enc C.prog fn conds apart) (s.post enc C.prog fn apart fresh handsOn again) := by
  refine returnsInHanded_of_calls own started noInit witness ?_
  intro w tape i _ hsh _ hok hpre _
  obtain ⟨_, _, _, fn', hfn', _, _, _, _, hval⟩ := hok
  obtain rfl : fn' = fn := Option.some.inj (hfn'.symm.trans hfn)
  obtain ⟨⟨ds, gs, before, hw, _⟩, _⟩ := hpre
  have hw' := DataW.Whole.of_heap (w' := w.forCall tape i) (by rfl) hw
  refine (contract (w.forCall tape i) w.heap.size i.args ds gs before hsh hval hw').mono fun e W' ⟨v, he, hp⟩ => ?_
  subst he
  exact ChangeSpec.post_blind hp

theorem own_knob : ownKnob Try.prog.godebug = none := by kernel_rfl
theorem laid_out : laidOutB Try.prog = true := by kernel_rfl
theorem may_enter : Try.prog.mayEnter = true := by kernel_rfl
theorem stops_heard : Try.prog.stopsHeard = true := by kernel_rfl
theorem maps_rowed : mapsRowed Try.prog = true := by kernel_rfl
theorem of_shaped {W : World} (_ : W.ShapedOpen Try.prog) : Laid W [] H0 := Laid.none W
theorem globs : Try.prog.globals.size ≤ H0.length := by rw [globals_size]; decide
theorem glob_at : ∀ g, g < Try.prog.globals.size → ∃ r, ([] : List ALoc)[g]? = some ⟨g, 0, r⟩ := fun g hg => by
  rw [globals_size] at hg
  omega
set_option maxRecDepth 100000 in
theorem repWalls {H : AHeap} {v : Value} (h : RepA Try.prog H 22 v) : ∃ l, Pairs H l v ∧ l.length ≤ maxLen ∧ InP l :=
  RepA.pairs (e := 36) Try.underlying22 Try.underlying36 (by kernel_rfl) rfl rfl rfl rfl (by kernel_rfl) (by kernel_rfl) (by kernel_rfl) (by kernel_rfl) h
end Go.Lq

namespace Go.Lq
open Go Go.ChangeShapes Go.WideShapes Go.ChangeAt Go.RowKit
open Go.Proofs
theorem lifts_final : Try.prog.liftsFinal = Ytpgemmklfaedfaa.Rows.topGrooveStereoRow.lifted := by kernel_rfl
theorem make_is : Try.prog.make = some Ytpgemmklfaedfaa.Rows.topGrooveStereoRow.make := by kernel_rfl
end Go.Lq

namespace Go.Lq
open Go

section
variable {H : AHeap}

theorem within_c (n lo hi : Int) : ACall Go.Proofs.Try.prog 35 [.int .i64 n, .int .i64 lo, .int .i64 hi] H fun v H' => v = .bool (decide (lo ≤ n ∧ n ≤ hi)) ∧ H' = H := by
  (refine a35 ?_; simp only [n35, List.replicate, yq, yr, yt, yu]; first | refine q1 ?_ | refine q2 ?_ | refine q6 ?_ | refine q7 ?_ | refine qh rfl ?_ | skip)
  refine yx ?_; (refine aops_until (by simp (disch := first|exact zz|fail) only [go_sem]; with_reducible rfl) ?_); refine yx ?_
  by_cases h : lo ≤ n
  · (refine aops_until (by simp (disch := first|exact zz|fail) only [go_sem, h]; with_reducible rfl) ?_)
    refine yx ?_
    refine fin_1 ⟨?_, rfl⟩
    simp [h]
  · (refine aops_until (by simp (disch := first|exact zz|fail) only [go_sem, h]; with_reducible rfl) ?_)
    refine yx ?_
    refine fin_1 ⟨?_, rfl⟩
    simp [h]

theorem bwithin_c (n lo hi : Int) : ACall Go.Proofs.Try.prog 20 [.int .i64 n, .int .i64 lo, .int .i64 hi] H fun v H' => v = .bool (decide (lo ≤ n ∧ n ≤ hi)) ∧ H' = H := by
  (refine a20 ?_; simp only [n20, List.replicate, yq, yr, yt, yu]; first | refine q1 ?_ | refine q2 ?_ | refine q6 ?_ | refine q7 ?_ | refine qh rfl ?_ | skip)
  refine yx ?_; (refine aops_until (by simp (disch := first|exact zz|fail) only [go_sem]; with_reducible rfl) ?_); refine yx ?_
  by_cases h : lo ≤ n
  · (refine aops_until (by simp (disch := first|exact zz|fail) only [go_sem, h]; with_reducible rfl) ?_)
    refine yx ?_
    refine fin_1 ⟨?_, rfl⟩
    simp [h]
  · (refine aops_until (by simp (disch := first|exact zz|fail) only [go_sem, h]; with_reducible rfl) ?_)
    refine yx ?_
    refine fin_1 ⟨?_, rfl⟩
    simp [h]

theorem isSized_c (n m : Int) (hm : -9223372036854775807 ≤ m ∧ m ≤ 9223372036854775807) : ACall Go.Proofs.Try.prog 24 [.int .i64 n, .int .i64 m] H fun v H' => v = .bool (decide (-m ≤ n ∧ n ≤ m)) ∧ H' = H := by
  (refine a24 ?_; simp only [n24, List.replicate, yq, yr, yt, yu]; first | refine q1 ?_ | refine q2 ?_ | refine q6 ?_ | refine q7 ?_ | refine qh rfl ?_ | skip)
  refine yx ?_; (refine aops_until (by simp (disch := first|exact zz|fail) only [go_sem]; with_reducible rfl) ?_); refine yx ?_
  (refine aops_until (by simp (disch := first|exact zz|fail) only [go_sem]; with_reducible rfl) ?_)
  refine aops_call_to (within_c _ _ _) ?_
  (refine aops_until (by simp (disch := first|exact zz|fail) only [go_sem]; with_reducible rfl) ?_)
  refine yx ?_
  refine fin_1 ⟨?_, rfl⟩
  simp

theorem unless_c (b : Bool) (e : Int) : ACall Go.Proofs.Try.prog 23 [.bool b, .int .i64 e] H fun v H' => v = .int .i64 (if b then 0 else e) ∧ H' = H := by
  (refine a23 ?_; simp only [n23, List.replicate, yq, yr, yt, yu]; first | refine q1 ?_ | refine q2 ?_ | refine q6 ?_ | refine q7 ?_ | refine qh rfl ?_ | skip)
  refine yx ?_; (refine aops_until (by simp (disch := first|exact zz|fail) only [go_sem]; with_reducible rfl) ?_); refine yx ?_; (refine aops_until (by simp (disch := first|exact zz|fail) only [go_sem]; with_reducible rfl) ?_); refine yx ?_
  cases b with
  | true =>
    refine cond_t rfl ?_
    refine yx ?_; (refine aops_until (by simp (disch := first|exact zz|fail) only [go_sem]; with_reducible rfl) ?_); refine yx ?_
    exact fin_1 ⟨rfl, rfl⟩
  | false =>
    refine cond_f rfl ?_
    refine yx ?_; (refine aops_until (by simp (disch := first|exact zz|fail) only [go_sem]; with_reducible rfl) ?_); refine yx ?_
    exact fin_1 ⟨rfl, rfl⟩

def firstErr (l : List Int) : Int := (l.find? (fun e => decide (e ≠ 0))).getD 0

theorem firstErr_nil : firstErr [] = 0 := rfl
theorem firstErr_z (l : List Int) : firstErr (0 :: l) = firstErr l := by simp [firstErr]
theorem firstErr_e {e : Int} (h : e ≠ 0) (l : List Int) : firstErr (e :: l) = e := by simp [firstErr, h]
theorem ite_tt {α : Type} (a b : α) : (if true = true then a else b) = a := rfl
theorem ite_ft {α : Type} (a b : α) : (if false = true then a else b) = b := rfl
attribute [go_sem] firstErr_nil firstErr_z firstErr_e ite_tt ite_ft if_true if_false

theorem first_c {l : List Int} {v : Value} (hl : Ints H l v) (hb : l.length ≤ 1000000) : ACall Go.Proofs.Try.prog 21 [v] H fun v H' => v = .int .i64 (firstErr l) ∧ H' = H := by
  (refine a21 ?_; simp only [n21, List.replicate, yq, yr, yt, yu]; first | refine q1 ?_ | refine q2 ?_ | refine q6 ?_ | refine q7 ?_ | refine qh rfl ?_ | skip)
  refine yx ?_; (refine aops_until (by simp (disch := first|exact zz|fail) only [go_sem]; with_reducible rfl) ?_); refine yx ?_; (refine aops_until (by simp (disch := first|exact zz|fail) only [go_sem, hl.len, hl.idx, hl.load]; with_reducible rfl) ?_); refine yx ?_
  refine awp_loop_n [true, false, true, false, false, true, true, true, false, false, false, false, false, false, false] l.length (fun i e H' => H' = H ∧ e = [v, junk, .int .i64 0, junk, junk, v, .int .i64 l.length, .int .i64 i, junk, junk, junk, junk, junk, junk, junk] ∧ ∀ j < i, l.getD j 0 = 0) ?_ ?_
  · exact ⟨rfl, rfl, by omega⟩
  · rintro i e H' hi ⟨rfl, rfl, hp⟩
    refine yx ?_; (refine aops_until (by simp (disch := first|exact zz|fail) only [go_sem, hl.len, hl.idx, hl.load]; with_reducible rfl) ?_); refine yx ?_
    refine cond_p rfl (fun hlt => ?_) (fun hge => ?_)
    · refine yx ?_; (refine aops_until (by simp (disch := first|exact zz|fail) only [go_sem, hl.len, hl.idx, hl.load]; with_reducible rfl) ?_); refine yx ?_; (refine aops_until (by simp (disch := first|exact zz|fail) only [go_sem]; with_reducible rfl) ?_); refine yx ?_
      refine cond_p rfl (fun hne => ?_) (fun heq => ?_)
      · refine yx ?_; (refine aops_until (by simp (disch := first|exact zz|fail) only [go_sem]; with_reducible rfl) ?_); refine yx ?_
        refine fin_1 ⟨?_, rfl⟩
        unfold firstErr
        rw [find_at (d := 0) (i := i) (by omega) (fun j hj => by simpa using hp j hj) (by simpa using hne)]
        rfl
      · refine yx ?_; (refine aops_until (by simp (disch := first|exact zz|fail) only [go_sem]; with_reducible rfl) ?_); refine yx ?_
        refine ⟨by omega, rfl, ?_, fun j hj => ?_⟩
        · simp [forget]
        · by_cases h : j = i
          · subst h; simpa using heq
          · exact hp j (by omega)
    · refine yx ?_; (refine aops_until (by simp (disch := first|exact zz|fail) only [go_sem]; with_reducible rfl) ?_); refine yx ?_
      refine fin_1 ⟨?_, rfl⟩
      unfold firstErr
      rw [find_none (d := 0) (fun j hj => by simpa using hp j (by omega))]
      rfl

def Asks (fv : Value) (p : Int → Bool) : Prop := ∀ n H, AInvoke Go.Proofs.Try.prog fv [.int .i64 n] H fun v H' => v = .bool (p n) ∧ H' = H

theorem indexFunc_c {l : List Int} {v fv : Value} {p : Int → Bool} (hl : Ints H l v) (hf : Asks fv p) (hb : l.length ≤ 1000000000) :
    ACall Go.Proofs.Try.prog 43 [v, fv] H fun v H' => (∃ i : Int, v = .int .i64 i ∧ (l.any p = decide (0 ≤ i))) ∧ H' = H := by
  (refine a43 ?_; simp only [n43, List.replicate, yq, yr, yt, yu]; first | refine q1 ?_ | refine q2 ?_ | refine q6 ?_ | refine q7 ?_ | refine qh rfl ?_ | skip)
  refine yx ?_; (refine aops_until (by simp (disch := first|exact zz|fail) only [go_sem]; with_reducible rfl) ?_); refine yx ?_; (refine aops_until (by simp (disch := first|exact zz|fail) only [go_sem, hl.len, hl.idx, hl.load]; with_reducible rfl) ?_); refine yx ?_
  refine awp_loop_n [true, true, false, false, true, false, true, true, true, false, false, false, false, false, false, false, false, false, false] l.length (fun i e H' => H' = H ∧ e = [v, fv, junk, junk, .int .i64 0, junk, v, .int .i64 l.length, .int .i64 i, junk, junk, junk, junk, junk, junk, junk, junk, junk, junk] ∧ ∀ j < i, p (l.getD j 0) = false) ?_ ?_
  · exact ⟨rfl, rfl, by omega⟩
  · rintro i e H' hi ⟨rfl, rfl, hp⟩
    refine yx ?_; (refine aops_until (by simp (disch := first|exact zz|fail) only [go_sem, hl.len, hl.idx, hl.load]; with_reducible rfl) ?_); refine yx ?_
    refine cond_p rfl (fun hlt => ?_) (fun hge => ?_)
    · refine yx ?_; (refine aops_until (by simp (disch := first|exact zz|fail) only [go_sem, hl.len, hl.idx, hl.load]; with_reducible rfl) ?_); refine yx ?_; (refine aops_until (by simp (disch := first|exact zz|fail) only [go_sem, hl.len, hl.idx, hl.load]; with_reducible rfl) ?_)
      refine aops_call_to (hf _ _) ?_
      (refine aops_until (by simp (disch := first|exact zz|fail) only [go_sem]; with_reducible rfl) ?_); refine yx ?_
      cases hq : p (l.getD i 0) with
      | true =>
        refine cond_t (by rw [← hq]; rfl) ?_
        refine yx ?_; (refine aops_until (by simp (disch := first|exact zz|fail) only [go_sem]; with_reducible rfl) ?_); refine yx ?_
        refine fin_1 ⟨⟨i, rfl, ?_⟩, rfl⟩
        rw [any_at (d := 0) (i := i) (by omega) hq]
        simp
      | false =>
        refine cond_f (by rw [← hq]; rfl) ?_
        refine yx ?_; (refine aops_until (by simp (disch := first|exact zz|fail) only [go_sem]; with_reducible rfl) ?_); refine yx ?_
        refine ⟨by omega, rfl, ?_, fun j hj => ?_⟩
        · simp [forget]
        · by_cases h : j = i
          · subst h; exact hq
          · exact hp j (by omega)
    · refine yx ?_; (refine aops_until (by simp (disch := first|exact zz|fail) only [go_sem]; with_reducible rfl) ?_); refine yx ?_
      refine fin_1 ⟨⟨-1, rfl, ?_⟩, rfl⟩
      rw [any_none (d := 0) fun j hj => hp j (by omega)]
      simp

theorem containsFunc_c {l : List Int} {v fv : Value} {p : Int → Bool} (hl : Ints H l v) (hf : Asks fv p) (hb : l.length ≤ 1000000000) :
    ACall Go.Proofs.Try.prog 33 [v, fv] H fun v H' => v = .bool (l.any p) ∧ H' = H := by
  (refine a33 ?_; simp only [n33, List.replicate, yq, yr, yt, yu]; first | refine q1 ?_ | refine q2 ?_ | refine q6 ?_ | refine q7 ?_ | refine qh rfl ?_ | skip)
  refine yx ?_; (refine aops_until (by simp (disch := first|exact zz|fail) only [go_sem]; with_reducible rfl) ?_); refine yx ?_; (refine aops_until (by simp (disch := first|exact zz|fail) only [go_sem]; with_reducible rfl) ?_)
  refine aops_call ((indexFunc_c hl hf hb).mono fun v1 H1 ⟨⟨i, h1, h2⟩, h3⟩ => ?_)
  subst h1; subst h3
  (refine aops_until (by simp (disch := first|exact zz|fail) only [go_sem]; with_reducible rfl) ?_); refine yx ?_
  refine fin_1 ⟨?_, rfl⟩
  simp [h2]

def sizedB (m n : Int) : Bool := decide (-m ≤ n ∧ n ≤ m)

theorem positionsErr1_c : Asks (.func (.func 34) #[] #[]) (fun n => !sizedB 1000000 n) := fun n H => by
  show ACall _ _ _ _ _
  (refine a34 ?_; simp only [n34, List.replicate, yq, yr, yt, yu]; first | refine q1 ?_ | refine q2 ?_ | refine q6 ?_ | refine q7 ?_ | refine qh rfl ?_ | skip)
  refine yx ?_; (refine aops_until (by simp (disch := first|exact zz|fail) only [go_sem]; with_reducible rfl) ?_); refine yx ?_; (refine aops_until (by simp (disch := first|exact zz|fail) only [go_sem]; with_reducible rfl) ?_)
  refine aops_call_to (isSized_c _ _ (by omega)) ?_
  (refine aops_until (by simp (disch := first|exact zz|fail) only [go_sem]; with_reducible rfl) ?_); refine yx ?_
  exact fin_1 ⟨rfl, rfl⟩

def positionsErrL (l : List Int) : Int := if 200 < l.length then 8 else if l.all (sizedB 1000000) then 0 else 2

theorem positionsErr_c {l : List Int} {v : Value} (hl : Ints H l v) (hb : l.length ≤ 1000000000) : ACall Go.Proofs.Try.prog 22 [v] H fun v H' => v = .int .i64 (positionsErrL l) ∧ H' = H := by
  refine ACall.drop (.int _ _) ?_
  (refine a22 ?_; simp only [n22, List.replicate, yq, yr, yt, yu]; first | refine q1 ?_ | refine q2 ?_ | refine q6 ?_ | refine q7 ?_ | refine qh rfl ?_ | skip)
  refine yx ?_; (refine aops_until (by simp (disch := first|exact zz|fail) only [go_sem]; with_reducible rfl) ?_); refine yx ?_; (refine aops_until (by simp (disch := first|exact zz|fail) only [go_sem]; with_reducible rfl) ?_)
  refine aops_call_to (containsFunc_c hl positionsErr1_c hb) ?_
  (refine aops_until (by simp (disch := first|exact zz|fail) only [go_sem]; with_reducible rfl) ?_); refine yx ?_; (refine aops_until (by simp (disch := first|exact zz|fail) only [go_sem, hl.len, hl.idx, hl.load]; with_reducible rfl) ?_)
  refine aops_call_to (unless_c _ _) ?_
  (refine aops_until (by simp (disch := first|exact zz|fail) only [go_sem]; with_reducible rfl) ?_)
  refine aops_call_to (unless_c _ _) ?_
  (refine aops_until (by simp (disch := first|exact zz|fail) only [go_sem]; with_reducible rfl) ?_)
  refine aops_call_to (first_c (l := [_, _]) (Ints.last (l := [_, _]) 2) (by simp)) ?_
  (refine aops_until (by simp (disch := first|exact zz|fail) only [go_sem]; with_reducible rfl) ?_); refine yx ?_
  refine fin_1 ⟨?_, Ext.app (Ext.refl _) _⟩
  have : (l.any fun n => !sizedB 1000000 n) = !(l.all (sizedB 1000000)) := by
    rw [← List.not_all_eq_any_not]
  simp only [firstErr, positionsErrL, this]
  by_cases h1 : 200 < l.length
  · have : ¬ ((l.length : Int) ≤ 200) := by omega
    simp [h1, this]
  · have : (l.length : Int) ≤ 200 := by omega
    cases l.all (sizedB 1000000) <;> simp [h1, this]

end
end Go.Lq

namespace Go.Lq
open Go

section
variable {H : AHeap}

theorem refPositionsErr_c {l : List Int} {v : Value} (hl : Ints H l v) (hb : l.length ≤ 1000000000) : ACall Go.Proofs.Try.prog 9 [v] H fun v H' => v = .int .i64 (positionsErrL l) ∧ H' = H := by
  (refine a9 ?_; simp only [n9, List.replicate, yq, yr, yt, yu]; first | refine q1 ?_ | refine q2 ?_ | refine q6 ?_ | refine q7 ?_ | refine qh rfl ?_ | skip)
  (repeat (first | refine yw ?_ | ((first | apply yd | apply ye); simp (disch := first|exact zz|fail) only [go_sem, hl.len, hl.idx, hl.load]; with_reducible rfl)))
  refine cond_p rfl (fun hlt => ?_) (fun hge => ?_)
  · (refine yg ?_)
    refine fin_1 ⟨?_, rfl⟩
    have : 200 < l.length := by omega
    simp [positionsErrL, this]
  · (refine yg ?_)
    have hle : ¬ 200 < l.length := by omega
    refine awp_loop_n [true, false, false, true, false, false, false, false, false, false, false, false, false, false, false, false, false, false, false] l.length (fun i e H' => H' = H ∧ e = [v, junk, junk, .int .i64 i, junk, junk, junk, junk, junk, junk, junk, junk, junk, junk, junk, junk, junk, junk, junk] ∧ ∀ j < i, sizedB 1000000 (l.getD j 0) = true) ?_ ?_
    · exact ⟨rfl, rfl, by omega⟩
    · rintro i e H' hi ⟨rfl, rfl, hp⟩
      (repeat (first | refine yw ?_ | ((first | apply yd | apply ye); simp (disch := first|exact zz|fail) only [go_sem, hl.len, hl.idx, hl.load]; with_reducible rfl)))
      refine cond_p rfl (fun hlt => ?_) (fun hge => ?_)
      · (repeat (first | refine yw ?_ | ((first | apply yd | apply ye); simp (disch := first|exact zz|fail) only [go_sem, hl.len, hl.idx, hl.load]; with_reducible rfl)))
        refine aops_call_to (bwithin_c _ _ _) ?_
        (refine yg ?_)
        refine cond_n rfl (fun hne => ?_) (fun heq => ?_)
        · (refine yg ?_)
          refine fin_1 ⟨?_, rfl⟩
          have : l.all (sizedB 1000000) = false := all_false (d := 0) (i := i) (by omega) (by simpa [sizedB] using hne)
          simp [positionsErrL, this, hle]
        · (refine yg ?_)
          refine ⟨by omega, rfl, by simp [forget], fun j hj => ?_⟩
          by_cases h : j = i
          · subst h; simpa [sizedB] using heq
          · exact hp j (by omega)
      · (refine yg ?_)
        refine fin_1 ⟨?_, rfl⟩
        have : l.all (sizedB 1000000) = true := all_true (d := 0) fun j hj => hp j (by omega)
        simp [positionsErrL, this, hle]

end
theorem firstD {P : Program} {G : AHeap} {f : FuncId} {args : List Value} {v : Value} (h : ACall P f args G fun v1 H1 => v1 = v ∧ H1 = G) : ACall P f args G fun v1 H1 => v1 = v ∧ H1 = G ++ [] :=
  h.mono fun _ _ ⟨a, b⟩ => ⟨a, by simp [b]⟩

theorem sizedB_f {m n : Int} (h : ¬ (-m ≤ n ∧ n ≤ m)) : sizedB m n = false := by simpa [sizedB] using h
theorem sizedB_t {m n : Int} (h : -m ≤ n ∧ n ≤ m) : sizedB m n = true := by simpa [sizedB] using h

end Go.Lq

namespace Go.Lq
open Go

section
variable {H : AHeap}

theorem copyWalls_u {l : List (Int × Int)} {v : Value} (hl : Pairs H l v) (hb : l.length ≤ 1000000000) : ACall Go.Proofs.Try.prog 7 [v] H fun v H1 => Pairs H1 l v ∧ Ext H H1 := by
  obtain ⟨s, H', ha, hx, id, rfl, hid, ho⟩ := append_copy (bytes := 16) hl (isAtom_flatP l) (roomOk_of (by omega) (by omega))
  (refine a7 ?_; simp only [n7, List.replicate, yq, yr, yt, yu]; first | refine q1 ?_ | refine q2 ?_ | refine q6 ?_ | refine q7 ?_ | refine qh rfl ?_ | skip)
  (repeat (first | refine yw ?_ | ((first | apply yd | apply ye); simp (disch := first|exact zz|fail) only [go_sem, ha]; with_reducible rfl)))
  exact fin_1 ⟨Sl.of ho (flatP_len l), hx⟩

def matF (p : Int × Int) : (Int × Int) × Int :=
  if sizedB 1000000 p.1 && sizedB 1000000 p.2 then (if p.1 ≤ p.2 then ((p.1 + p.2, p.2 - p.1), 0) else ((0, 0), 9)) else ((0, 0), 2)
def wallF (p : Int × Int) : (Int × Int) × Int :=
  if sizedB 2000000 p.1 && sizedB 2000000 p.2 then
    (((p.1 - p.2).tdiv 2, (p.1 + p.2).tdiv 2), if (p.1 - p.2).tmod 2 = 0 then (if 0 ≤ p.2 then (if sizedB 1000000 ((p.1 - p.2).tdiv 2) && sizedB 1000000 ((p.1 + p.2).tdiv 2) then 0 else 23) else 9) else 3)
  else ((0, 0), 2)
def pairV (p : Int × Int) : Value := .agg ⟨[.int .i64 p.1, .int .i64 p.2]⟩

def MapsP (fv : Value) (f : Int × Int → (Int × Int) × Int) : Prop :=
  ∀ p H, InI64 p.1 → InI64 p.2 → AInvoke Go.Proofs.Try.prog fv [pairV p] H fun v H' => v = .tuple #[pairV (f p).1, .int .i64 (f p).2] ∧ H' = H

theorem closed_pairV (p : Int × Int) : Closed (pairV p) := .agg _ fun i v h => by
  have h' : [Value.int .i64 p.1, .int .i64 p.2][i]? = some v := by simpa using h
  have hm := List.mem_of_getElem? h'
  simp only [List.mem_cons, List.not_mem_nil, or_false] at hm
  rcases hm with rfl | rfl <;> exact .int _ _
theorem closed_tuple2 {a b : Value} (ha : Closed a) (hb : Closed b) : Closed (.tuple #[a, b]) := .tuple _ fun i v h => by
  have h' : [a, b][i]? = some v := by simpa using h
  have hm := List.mem_of_getElem? h'
  simp only [List.mem_cons, List.not_mem_nil, or_false] at hm
  rcases hm with rfl | rfl
  · exact ha
  · exact hb

theorem matrixOf_c : MapsP (.func (.func 17) #[] #[]) matF := fun p H h1 h2 => by
  show ACall _ _ _ _ _
  refine ACall.drop (closed_tuple2 (closed_pairV _) (.int _ _)) ?_
  obtain ⟨a, b⟩ := p
  by_cases ha : -1000000 ≤ a ∧ a ≤ 1000000
  · by_cases hb : -1000000 ≤ b ∧ b ≤ 1000000
    · by_cases hle : a ≤ b
      ·
        have hm : matF (a, b) = ((a + b, b - a), 0) := by simp [matF, sizedB_t ha, sizedB_t hb, hle]
        rw [hm]
        (refine a17 ?_; simp only [n17, List.replicate, yq, yr, yt, yu]; first | refine q1 ?_ | refine q2 ?_ | refine q6 ?_ | refine q7 ?_ | refine qh rfl ?_ | skip)
        unfold pairV
        (refine yg ?_)
        refine aops_call_to (isSized_c _ _ (by omega)) ?_
        (repeat (first | refine yw ?_ | ((first | apply yd | apply ye); simp (disch := first|exact zz|fail) only [go_sem, dec_t ha]; with_reducible rfl)))
        refine aops_call_to (isSized_c _ _ (by omega)) ?_
        (repeat (first | refine yw ?_ | ((first | apply yd | apply ye); simp (disch := first|exact zz|fail) only [go_sem, dec_t hb]; with_reducible rfl)))
        refine adraw_call (N := []) (firstD (unless_c _ _)) ?_
        (repeat (first | refine yw ?_ | ((first | apply yd | apply ye); simp (disch := first|exact zz|fail) only [go_sem, dec_t hle, List.append_nil]; with_reducible rfl)))
        refine adraw_call (N := []) (firstD (unless_c _ _)) ?_
        (repeat (first | refine yw ?_ | ((first | apply yd | apply ye); simp (disch := first|exact zz|fail) only [go_sem, List.append_nil]; with_reducible rfl)))
        refine adraw_call (N := []) (firstD (first_c (l := [_, _]) (Ints.last (l := [_, _]) 2) (by simp))) ?_
        (repeat (first | refine yw ?_ | ((first | apply yd | apply ye); simp (disch := first|exact zz|fail) only [go_sem, List.append_nil, dec_t]; with_reducible rfl)))
        refine cond_f rfl ?_
        (refine yg ?_)
        exact fin_l2 (by simp (disch := first|exact zz|fail) only [go_sem]) ⟨rfl, ((((Ext.refl _).app _).app _).app _)⟩
      ·
        have hm : matF (a, b) = ((0, 0), 9) := by simp [matF, sizedB_t ha, sizedB_t hb, hle]
        rw [hm]
        (refine a17 ?_; simp only [n17, List.replicate, yq, yr, yt, yu]; first | refine q1 ?_ | refine q2 ?_ | refine q6 ?_ | refine q7 ?_ | refine qh rfl ?_ | skip)
        unfold pairV
        (refine yg ?_)
        refine aops_call_to (isSized_c _ _ (by omega)) ?_
        (repeat (first | refine yw ?_ | ((first | apply yd | apply ye); simp (disch := first|exact zz|fail) only [go_sem, dec_t ha]; with_reducible rfl)))
        refine aops_call_to (isSized_c _ _ (by omega)) ?_
        (repeat (first | refine yw ?_ | ((first | apply yd | apply ye); simp (disch := first|exact zz|fail) only [go_sem, dec_t hb]; with_reducible rfl)))
        refine adraw_call (N := []) (firstD (unless_c _ _)) ?_
        (repeat (first | refine yw ?_ | ((first | apply yd | apply ye); simp (disch := first|exact zz|fail) only [go_sem, dec_f hle, List.append_nil]; with_reducible rfl)))
        refine adraw_call (N := []) (firstD (unless_c _ _)) ?_
        (repeat (first | refine yw ?_ | ((first | apply yd | apply ye); simp (disch := first|exact zz|fail) only [go_sem, List.append_nil]; with_reducible rfl)))
        refine adraw_call (N := []) (firstD (first_c (l := [_, _]) (Ints.last (l := [_, _]) 2) (by simp))) ?_
        (repeat (first | refine yw ?_ | ((first | apply yd | apply ye); simp (disch := first|exact zz|fail) only [go_sem, List.append_nil, dec_t]; with_reducible rfl)))
        refine cond_t rfl ?_
        (refine yg ?_)
        exact fin_l2 (by simp (disch := first|exact zz|fail) only [go_sem]) ⟨rfl, ((((Ext.refl _).app _).app _).app _)⟩
    · by_cases hle : a ≤ b
      ·
        have hm : matF (a, b) = ((0, 0), 2) := by simp [matF, sizedB_t ha, sizedB_f hb]
        rw [hm]
        (refine a17 ?_; simp only [n17, List.replicate, yq, yr, yt, yu]; first | refine q1 ?_ | refine q2 ?_ | refine q6 ?_ | refine q7 ?_ | refine qh rfl ?_ | skip)
        unfold pairV
        (refine yg ?_)
        refine aops_call_to (isSized_c _ _ (by omega)) ?_
        (repeat (first | refine yw ?_ | ((first | apply yd | apply ye); simp (disch := first|exact zz|fail) only [go_sem, dec_t ha]; with_reducible rfl)))
        refine aops_call_to (isSized_c _ _ (by omega)) ?_
        (repeat (first | refine yw ?_ | ((first | apply yd | apply ye); simp (disch := first|exact zz|fail) only [go_sem, dec_f hb]; with_reducible rfl)))
        refine adraw_call (N := []) (firstD (unless_c _ _)) ?_
        (repeat (first | refine yw ?_ | ((first | apply yd | apply ye); simp (disch := first|exact zz|fail) only [go_sem, dec_t hle, List.append_nil]; with_reducible rfl)))
        refine adraw_call (N := []) (firstD (unless_c _ _)) ?_
        (repeat (first | refine yw ?_ | ((first | apply yd | apply ye); simp (disch := first|exact zz|fail) only [go_sem, List.append_nil]; with_reducible rfl)))
        refine adraw_call (N := []) (firstD (first_c (l := [_, _]) (Ints.last (l := [_, _]) 2) (by simp))) ?_
        (repeat (first | refine yw ?_ | ((first | apply yd | apply ye); simp (disch := first|exact zz|fail) only [go_sem, List.append_nil, dec_t]; with_reducible rfl)))
        refine cond_t rfl ?_
        (refine yg ?_)
        exact fin_l2 (by simp (disch := first|exact zz|fail) only [go_sem]) ⟨rfl, ((((Ext.refl _).app _).app _).app _)⟩
      ·
        have hm : matF (a, b) = ((0, 0), 2) := by simp [matF, sizedB_t ha, sizedB_f hb]
        rw [hm]
        (refine a17 ?_; simp only [n17, List.replicate, yq, yr, yt, yu]; first | refine q1 ?_ | refine q2 ?_ | refine q6 ?_ | refine q7 ?_ | refine qh rfl ?_ | skip)
        unfold pairV
        (refine yg ?_)
        refine aops_call_to (isSized_c _ _ (by omega)) ?_
        (repeat (first | refine yw ?_ | ((first | apply yd | apply ye); simp (disch := first|exact zz|fail) only [go_sem, dec_t ha]; with_reducible rfl)))
        refine aops_call_to (isSized_c _ _ (by omega)) ?_
        (repeat (first | refine yw ?_ | ((first | apply yd | apply ye); simp (disch := first|exact zz|fail) only [go_sem, dec_f hb]; with_reducible rfl)))
        refine adraw_call (N := []) (firstD (unless_c _ _)) ?_
        (repeat (first | refine yw ?_ | ((first | apply yd | apply ye); simp (disch := first|exact zz|fail) only [go_sem, dec_f hle, List.append_nil]; with_reducible rfl)))
        refine adraw_call (N := []) (firstD (unless_c _ _)) ?_
        (repeat (first | refine yw ?_ | ((first | apply yd | apply ye); simp (disch := first|exact zz|fail) only [go_sem, List.append_nil]; with_reducible rfl)))
        refine adraw_call (N := []) (firstD (first_c (l := [_, _]) (Ints.last (l := [_, _]) 2) (by simp))) ?_
        (repeat (first | refine yw ?_ | ((first | apply yd | apply ye); simp (disch := first|exact zz|fail) only [go_sem, List.append_nil, dec_t]; with_reducible rfl)))
        refine cond_t rfl ?_
        (refine yg ?_)
        exact fin_l2 (by simp (disch := first|exact zz|fail) only [go_sem]) ⟨rfl, ((((Ext.refl _).app _).app _).app _)⟩
  · by_cases hle : a ≤ b
    ·
        have hm : matF (a, b) = ((0, 0), 2) := by simp [matF, sizedB_f ha]
        rw [hm]
        (refine a17 ?_; simp only [n17, List.replicate, yq, yr, yt, yu]; first | refine q1 ?_ | refine q2 ?_ | refine q6 ?_ | refine q7 ?_ | refine qh rfl ?_ | skip)
        unfold pairV
        (refine yg ?_)
        refine aops_call_to (isSized_c _ _ (by omega)) ?_
        (repeat (first | refine yw ?_ | ((first | apply yd | apply ye); simp (disch := first|exact zz|fail) only [go_sem, dec_f ha]; with_reducible rfl)))
        refine adraw_call (N := []) (firstD (unless_c _ _)) ?_
        (repeat (first | refine yw ?_ | ((first | apply yd | apply ye); simp (disch := first|exact zz|fail) only [go_sem, dec_t hle, List.append_nil]; with_reducible rfl)))
        refine adraw_call (N := []) (firstD (unless_c _ _)) ?_
        (repeat (first | refine yw ?_ | ((first | apply yd | apply ye); simp (disch := first|exact zz|fail) only [go_sem, List.append_nil]; with_reducible rfl)))
        refine adraw_call (N := []) (firstD (first_c (l := [_, _]) (Ints.last (l := [_, _]) 2) (by simp))) ?_
        (repeat (first | refine yw ?_ | ((first | apply yd | apply ye); simp (disch := first|exact zz|fail) only [go_sem, List.append_nil, dec_t]; with_reducible rfl)))
        refine cond_t rfl ?_
        (refine yg ?_)
        exact fin_l2 (by simp (disch := first|exact zz|fail) only [go_sem]) ⟨rfl, ((((Ext.refl _).app _).app _).app _)⟩
    ·
        have hm : matF (a, b) = ((0, 0), 2) := by simp [matF, sizedB_f ha]
        rw [hm]
        (refine a17 ?_; simp only [n17, List.replicate, yq, yr, yt, yu]; first | refine q1 ?_ | refine q2 ?_ | refine q6 ?_ | refine q7 ?_ | refine qh rfl ?_ | skip)
        unfold pairV
        (refine yg ?_)
        refine aops_call_to (isSized_c _ _ (by omega)) ?_
        (repeat (first | refine yw ?_ | ((first | apply yd | apply ye); simp (disch := first|exact zz|fail) only [go_sem, dec_f ha]; with_reducible rfl)))
        refine adraw_call (N := []) (firstD (unless_c _ _)) ?_
        (repeat (first | refine yw ?_ | ((first | apply yd | apply ye); simp (disch := first|exact zz|fail) only [go_sem, dec_f hle, List.append_nil]; with_reducible rfl)))
        refine adraw_call (N := []) (firstD (unless_c _ _)) ?_
        (repeat (first | refine yw ?_ | ((first | apply yd | apply ye); simp (disch := first|exact zz|fail) only [go_sem, List.append_nil]; with_reducible rfl)))
        refine adraw_call (N := []) (firstD (first_c (l := [_, _]) (Ints.last (l := [_, _]) 2) (by simp))) ?_
        (repeat (first | refine yw ?_ | ((first | apply yd | apply ye); simp (disch := first|exact zz|fail) only [go_sem, List.append_nil, dec_t]; with_reducible rfl)))
        refine cond_t rfl ?_
        (refine yg ?_)
        exact fin_l2 (by simp (disch := first|exact zz|fail) only [go_sem]) ⟨rfl, ((((Ext.refl _).app _).app _).app _)⟩

theorem widthOf_c (p : Int × Int) (h1 : InI64 p.1) (h2 : InI64 p.2) : ACall Go.Proofs.Try.prog 19 [pairV p] H fun v H' => v = .tuple #[.int .i64 (matF p).1.2, .int .i64 (matF p).2] ∧ H' = H := by
  refine ACall.drop (closed_tuple2 (.int _ _) (.int _ _)) ?_
  (refine a19 ?_; simp only [n19, List.replicate, yq, yr, yt, yu]; first | refine q1 ?_ | refine q2 ?_ | refine q6 ?_ | refine q7 ?_ | refine qh rfl ?_ | skip)
  unfold pairV
  (refine yg ?_)
  refine aops_call_to (matrixOf_c p _ h1 h2) ?_
  unfold pairV
  (refine yg ?_)
  exact fin_2 ⟨rfl, (((Ext.refl _).app _).app _)⟩

theorem tdiv2_bounds {n : Int} (h : -4000000 ≤ n ∧ n ≤ 4000000) : -2000001 ≤ n.tdiv 2 ∧ n.tdiv 2 ≤ 2000001 := by
  rw [Int.tdiv_eq_ediv]
  have : (2 : Int).sign = 1 := rfl
  rw [this]
  split <;> omega

theorem wallsOf_c : MapsP (.func (.func 26) #[] #[]) wallF := fun p H h1 h2 => by
  show ACall _ _ _ _ _
  refine ACall.drop (closed_tuple2 (closed_pairV _) (.int _ _)) ?_
  obtain ⟨a, b⟩ := p
  by_cases ha : -2000000 ≤ a ∧ a ≤ 2000000
  · by_cases hb : -2000000 ≤ b ∧ b ≤ 2000000
    · have b1 := tdiv2_bounds (n := a - b) (by omega)
      have b2 := tdiv2_bounds (n := a + b) (by omega)
      have two : (2 : Int) ≠ 0 := by decide
      have hm : wallF (a, b) = (((a - b).tdiv 2, (a + b).tdiv 2), firstErr [if decide ((a - b).tmod 2 = 0) = true then 0 else 3, if decide (0 ≤ b) = true then 0 else 9,
          if (sizedB 1000000 ((a - b).tdiv 2) && sizedB 1000000 ((a + b).tdiv 2)) = true then 0 else 23]) := by
        simp only [wallF, sizedB_t ha, sizedB_t hb, Bool.and_self, if_true]
        by_cases e1 : (a - b).tmod 2 = 0
        · by_cases e2 : 0 ≤ b
          · by_cases e3 : (sizedB 1000000 ((a - b).tdiv 2) && sizedB 1000000 ((a + b).tdiv 2)) = true
            · simp [firstErr, e1, e2, e3]
            · simp only [e1, e2, e3]; simp [firstErr]
          · simp [firstErr, e1, e2]
        · simp [firstErr, e1]
      rw [hm]
      (refine a26 ?_; simp only [n26, List.replicate, yq, yr, yt, yu]; first | refine q1 ?_ | refine q2 ?_ | refine q6 ?_ | refine q7 ?_ | refine qh rfl ?_ | skip)
      unfold pairV
      (refine yg ?_)
      refine aops_call_to (isSized_c _ _ (by omega)) ?_
      (repeat (first | refine yw ?_ | ((first | apply yd | apply ye); simp (disch := first|exact zz|fail) only [go_sem, dec_t ha]; with_reducible rfl)))
      refine aops_call_to (isSized_c _ _ (by omega)) ?_
      (repeat (first | refine yw ?_ | ((first | apply yd | apply ye); simp (disch := first|exact zz|fail) only [go_sem, dec_t hb]; with_reducible rfl)))
      refine cond_f rfl ?_
      (refine yg ?_)
      refine adraw_call (N := []) (firstD (unless_c _ _)) ?_
      (repeat (first | refine yw ?_ | ((first | apply yd | apply ye); simp (disch := first|exact zz|fail) only [go_sem, List.append_nil]; with_reducible rfl)))
      refine adraw_call (N := []) (firstD (unless_c _ _)) ?_
      (repeat (first | refine yw ?_ | ((first | apply yd | apply ye); simp (disch := first|exact zz|fail) only [go_sem, List.append_nil]; with_reducible rfl)))
      refine adraw_call (N := []) (firstD (isSized_c _ _ (by omega))) ?_
      by_cases hL : -1000000 ≤ (a - b).tdiv 2 ∧ (a - b).tdiv 2 ≤ 1000000
      · (repeat (first | refine yw ?_ | ((first | apply yd | apply ye); simp (disch := first|exact zz|fail) only [go_sem, List.append_nil, dec_t hL]; with_reducible rfl)))
        refine adraw_call (N := []) (firstD (isSized_c _ _ (by omega))) ?_
        (repeat (first | refine yw ?_ | ((first | apply yd | apply ye); simp (disch := first|exact zz|fail) only [go_sem, List.append_nil]; with_reducible rfl)))
        refine adraw_call (N := []) (firstD (unless_c _ _)) ?_
        (repeat (first | refine yw ?_ | ((first | apply yd | apply ye); simp (disch := first|exact zz|fail) only [go_sem, List.append_nil]; with_reducible rfl)))
        refine adraw_call (N := []) (firstD (first_c (l := [_, _, _]) (Ints.last (l := [_, _, _]) 3) (by simp))) ?_
        (repeat (first | refine yw ?_ | ((first | apply yd | apply ye); simp (disch := first|exact zz|fail) only [go_sem, List.append_nil]; with_reducible rfl)))
        have e4 : (sizedB 1000000 ((a - b).tdiv 2) && sizedB 1000000 ((a + b).tdiv 2)) = decide (-1000000 ≤ (a + b).tdiv 2 ∧ (a + b).tdiv 2 ≤ 1000000) := by rw [sizedB_t hL, Bool.true_and]; rfl
        rw [e4]
        exact fin_l2 (by simp (disch := first|exact zz|fail) only [go_sem]) ⟨rfl, (((((Ext.refl _).app _).app _).app _).app _)⟩
      · (repeat (first | refine yw ?_ | ((first | apply yd | apply ye); simp (disch := first|exact zz|fail) only [go_sem, List.append_nil, dec_f hL]; with_reducible rfl)))
        refine adraw_call (N := []) (firstD (unless_c _ _)) ?_
        (repeat (first | refine yw ?_ | ((first | apply yd | apply ye); simp (disch := first|exact zz|fail) only [go_sem, List.append_nil]; with_reducible rfl)))
        refine adraw_call (N := []) (firstD (first_c (l := [_, _, _]) (Ints.last (l := [_, _, _]) 3) (by simp))) ?_
        (repeat (first | refine yw ?_ | ((first | apply yd | apply ye); simp (disch := first|exact zz|fail) only [go_sem, List.append_nil]; with_reducible rfl)))
        have e4 : (sizedB 1000000 ((a - b).tdiv 2) && sizedB 1000000 ((a + b).tdiv 2)) = false := by rw [sizedB_f hL, Bool.false_and]
        rw [e4]
        exact fin_l2 (by simp (disch := first|exact zz|fail) only [go_sem]) ⟨rfl, (((((Ext.refl _).app _).app _).app _).app _)⟩
    · have hm : wallF (a, b) = ((0, 0), 2) := by simp [wallF, sizedB_t ha, sizedB_f hb]
      rw [hm]
      (refine a26 ?_; simp only [n26, List.replicate, yq, yr, yt, yu]; first | refine q1 ?_ | refine q2 ?_ | refine q6 ?_ | refine q7 ?_ | refine qh rfl ?_ | skip)
      unfold pairV
      (refine yg ?_)
      refine aops_call_to (isSized_c _ _ (by omega)) ?_
      (repeat (first | refine yw ?_ | ((first | apply yd | apply ye); simp (disch := first|exact zz|fail) only [go_sem, dec_t ha]; with_reducible rfl)))
      refine aops_call_to (isSized_c _ _ (by omega)) ?_
      (repeat (first | refine yw ?_ | ((first | apply yd | apply ye); simp (disch := first|exact zz|fail) only [go_sem, dec_f hb]; with_reducible rfl)))
      refine cond_t rfl ?_
      (refine yg ?_)
      exact fin_l2 (by simp (disch := first|exact zz|fail) only [go_sem]) ⟨rfl, ((((Ext.refl _).app _)).app _)⟩
  · have hm : wallF (a, b) = ((0, 0), 2) := by simp [wallF, sizedB_f ha]
    rw [hm]
    (refine a26 ?_; simp only [n26, List.replicate, yq, yr, yt, yu]; first | refine q1 ?_ | refine q2 ?_ | refine q6 ?_ | refine q7 ?_ | refine qh rfl ?_ | skip)
    unfold pairV
    (refine yg ?_)
    refine aops_call_to (isSized_c _ _ (by omega)) ?_
    (repeat (first | refine yw ?_ | ((first | apply yd | apply ye); simp (disch := first|exact zz|fail) only [go_sem, dec_f ha]; with_reducible rfl)))
    refine cond_t rfl ?_
    (refine yg ?_)
    exact fin_l2 (by simp (disch := first|exact zz|fail) only [go_sem]) ⟨rfl, ((((Ext.refl _).app _)).app _)⟩

def mapGo {β : Type} (f : Int × Int → β × Int) : List (Int × Int) → List β → List β × Int
  | [], out => (out, 0)
  | a :: l, out => if (f a).2 = 0 then mapGo f l (out ++ [(f a).1]) else ([], (f a).2)
def mappedL {β : Type} (f : Int × Int → β × Int) (l : List (Int × Int)) : List β × Int := if l.length ≤ 200 then mapGo f l [] else ([], 8)
theorem mapGo_step {β : Type} {f : Int × Int → β × Int} {l : List (Int × Int)} {out : List β} {i : Nat} (h : i < l.length) :
    mapGo f (l.drop i) out = if (f (l.getD i (0, 0))).2 = 0 then mapGo f (l.drop (i + 1)) (out ++ [(f (l.getD i (0, 0))).1]) else ([], (f (l.getD i (0, 0))).2) := by
  rw [drop_getD (d := (0, 0)) h]; rfl
theorem mapGo_end {β : Type} {f : Int × Int → β × Int} {l : List (Int × Int)} {out : List β} {i : Nat} (h : l.length ≤ i) : mapGo f (l.drop i) out = (out, 0) := by
  rw [drop_end h]; rfl



theorem mappedM_c {l : List (Int × Int)} {v fv : Value} {f : Int × Int → (Int × Int) × Int} (hl : Pairs H l v) (hin : InP l) (hf : MapsP fv f) (hb : l.length ≤ 1000000000) :
    ACall Go.Proofs.Try.prog 16 [v, fv] H (PairsRes H (mappedL f l).1 (mappedL f l).2) := by
  refine ACall.pairsE ?_
  (refine a16 ?_; simp only [n16, List.replicate, yq, yr, yt, yu]; first | refine q1 ?_ | refine q2 ?_ | refine q6 ?_ | refine q7 ?_ | refine qh rfl ?_ | skip)
  (repeat (first | refine yw ?_ | ((first | apply yd | apply ye); simp (disch := first|exact zz|fail) only [go_sem, hl.len, hl.idx, hl.load]; with_reducible rfl)))
  refine cond_p rfl (fun hgt => ?_) (fun hle => ?_)
  · (refine yg ?_)
    have hm : mappedL f l = ([], 8) := by unfold mappedL; rw [if_neg (by omega)]
    rw [hm]
    exact fin_2 ⟨_, rfl, Ext.refl _, OwnP.nil _ _⟩
  · have hm : mappedL f l = mapGo f l [] := by unfold mappedL; rw [if_pos (by omega)]
    rw [hm]
    (repeat (first | refine yw ?_ | ((first | apply yd | apply ye); simp (disch := first|exact zz|fail) only [go_sem, hl.len, hl.idx, hl.load]; with_reducible rfl)))
    refine awp_loop_n [false, true, false, false, false, false, true, false, false, false, false, false, false, false, true, true, true, false, false, false, false, false, false, false, false, false, false, false, false, false, false, false, false, false, false] l.length (fun i e H1 => ∃ out v1, e = [junk, fv, junk, junk, junk, junk, v1, junk, junk, junk, junk, junk, junk, junk, v, .int .i64 l.length, .int .i64 i, junk, junk, junk, junk, junk, junk, junk, junk, junk, junk, junk, junk, junk, junk, junk, junk, junk, junk] ∧ OwnP H H1 out v1 ∧ Ext H H1 ∧ out.length = i ∧ mapGo f (l.drop i) out = mapGo f l []) ?_ ?_
    · exact ⟨[], _, by simp [forget], OwnP.nil _ _, Ext.refl _, rfl, rfl⟩
    · rintro i e H1 hi ⟨out, v1, rfl, ho, hx, hlo, hv⟩
      (refine yg ?_)
      refine cond_p rfl (fun hlt => ?_) (fun hge => ?_)
      · rw [mapGo_step (by omega)] at hv
        have hi' : i < l.length := by omega
        obtain ⟨r1, -, -, -, -⟩ := Pairs.load hl hx hi'
        (repeat (first | refine yw ?_ | ((first | apply yd | apply ye); simp (disch := first|exact zz|fail) only [go_sem, hl.len, hl.idx, hl.load, r1]; with_reducible rfl)))
        refine aops_call_to (hf _ _ (hin i).1 (hin i).2) ?_
        by_cases he : (f (l.getD i (0, 0))).2 = 0
        · rw [if_pos he] at hv
          unfold pairV
          (repeat (first | refine yw ?_ | ((first | apply yd | apply ye); simp (disch := first|exact zz|fail) only [go_sem, he]; with_reducible rfl)))
          refine cond_f rfl ?_
          (repeat (first | refine yw ?_ | ((first | apply yd | apply ye); simp (disch := first|exact zz|fail) only [go_sem, fun N M => ((ho.app N).app M).push (by omega)]; with_reducible rfl)))
          refine ⟨by omega, _, _, ?_, ((ho.app _).app _).pushed ((hx.app _).app _) _, ((ho.app _).app _).ext ((hx.app _).app _) _, by simp [hlo], hv⟩
          simp [forget]
        · rw [if_neg he] at hv
          unfold pairV
          (repeat (first | refine yw ?_ | ((first | apply yd | apply ye); simp (disch := first|exact zz|fail) only [go_sem, dec_t]; with_reducible rfl)))
          refine cond_t rfl ?_
          (refine yg ?_)
          rw [← hv]
          exact fin_2 ⟨_, rfl, ((hx.app _).app _), OwnP.nil _ _⟩
      · (refine yg ?_)
        rw [mapGo_end (by omega)] at hv
        rw [← hv]
        exact fin_2 ⟨_, rfl, hx, ho⟩

theorem mappedW_c {l : List (Int × Int)} {v fv : Value} {f : Int × Int → (Int × Int) × Int} (hl : Pairs H l v) (hin : InP l) (hf : MapsP fv f) (hb : l.length ≤ 1000000000) :
    ACall Go.Proofs.Try.prog 25 [v, fv] H (PairsRes H (mappedL f l).1 (mappedL f l).2) := by
  refine ACall.pairsE ?_
  (refine a25 ?_; simp only [n25, List.replicate, yq, yr, yt, yu]; first | refine q1 ?_ | refine q2 ?_ | refine q6 ?_ | refine q7 ?_ | refine qh rfl ?_ | skip)
  (repeat (first | refine yw ?_ | ((first | apply yd | apply ye); simp (disch := first|exact zz|fail) only [go_sem, hl.len, hl.idx, hl.load]; with_reducible rfl)))
  refine cond_p rfl (fun hgt => ?_) (fun hle => ?_)
  · (refine yg ?_)
    have hm : mappedL f l = ([], 8) := by unfold mappedL; rw [if_neg (by omega)]
    rw [hm]
    exact fin_2 ⟨_, rfl, Ext.refl _, OwnP.nil _ _⟩
  · have hm : mappedL f l = mapGo f l [] := by unfold mappedL; rw [if_pos (by omega)]
    rw [hm]
    (repeat (first | refine yw ?_ | ((first | apply yd | apply ye); simp (disch := first|exact zz|fail) only [go_sem, hl.len, hl.idx, hl.load]; with_reducible rfl)))
    refine awp_loop_n [false, true, false, false, false, false, true, false, false, false, false, false, false, false, true, true, true, false, false, false, false, false, false, false, false, false, false, false, false, false, false, false, false, false, false] l.length (fun i e H1 => ∃ out v1, e = [junk, fv, junk, junk, junk, junk, v1, junk, junk, junk, junk, junk, junk, junk, v, .int .i64 l.length, .int .i64 i, junk, junk, junk, junk, junk, junk, junk, junk, junk, junk, junk, junk, junk, junk, junk, junk, junk, junk] ∧ OwnP H H1 out v1 ∧ Ext H H1 ∧ out.length = i ∧ mapGo f (l.drop i) out = mapGo f l []) ?_ ?_
    · exact ⟨[], _, by simp [forget], OwnP.nil _ _, Ext.refl _, rfl, rfl⟩
    · rintro i e H1 hi ⟨out, v1, rfl, ho, hx, hlo, hv⟩
      (refine yg ?_)
      refine cond_p rfl (fun hlt => ?_) (fun hge => ?_)
      · rw [mapGo_step (by omega)] at hv
        have hi' : i < l.length := by omega
        obtain ⟨r1, -, -, -, -⟩ := Pairs.load hl hx hi'
        (repeat (first | refine yw ?_ | ((first | apply yd | apply ye); simp (disch := first|exact zz|fail) only [go_sem, hl.len, hl.idx, hl.load, r1]; with_reducible rfl)))
        refine aops_call_to (hf _ _ (hin i).1 (hin i).2) ?_
        by_cases he : (f (l.getD i (0, 0))).2 = 0
        · rw [if_pos he] at hv
          unfold pairV
          (repeat (first | refine yw ?_ | ((first | apply yd | apply ye); simp (disch := first|exact zz|fail) only [go_sem, he]; with_reducible rfl)))
          refine cond_f rfl ?_
          (repeat (first | refine yw ?_ | ((first | apply yd | apply ye); simp (disch := first|exact zz|fail) only [go_sem, fun N M => ((ho.app N).app M).push (by omega)]; with_reducible rfl)))
          refine ⟨by omega, _, _, ?_, ((ho.app _).app _).pushed ((hx.app _).app _) _, ((ho.app _).app _).ext ((hx.app _).app _) _, by simp [hlo], hv⟩
          simp [forget]
        · rw [if_neg he] at hv
          unfold pairV
          (repeat (first | refine yw ?_ | ((first | apply yd | apply ye); simp (disch := first|exact zz|fail) only [go_sem, dec_t]; with_reducible rfl)))
          refine cond_t rfl ?_
          (refine yg ?_)
          rw [← hv]
          exact fin_2 ⟨_, rfl, ((hx.app _).app _), OwnP.nil _ _⟩
      · (refine yg ?_)
        rw [mapGo_end (by omega)] at hv
        rw [← hv]
        exact fin_2 ⟨_, rfl, hx, ho⟩

def MapsI (fv : Value) (f : Int × Int → Int × Int) : Prop :=
  ∀ p H, InI64 p.1 → InI64 p.2 → AInvoke Go.Proofs.Try.prog fv [pairV p] H fun v H' => v = .tuple #[.int .i64 (f p).1, .int .i64 (f p).2] ∧ H' = H

theorem mappedI_c {l : List (Int × Int)} {v fv : Value} {f : Int × Int → Int × Int} (hl : Pairs H l v) (hin : InP l) (hf : MapsI fv f) (hb : l.length ≤ 1000000000) :
    ACall Go.Proofs.Try.prog 18 [v, fv] H (IntsRes H (mappedL f l).1 (mappedL f l).2) := by
  refine ACall.intsE ?_
  (refine a18 ?_; simp only [n18, List.replicate, yq, yr, yt, yu]; first | refine q1 ?_ | refine q2 ?_ | refine q6 ?_ | refine q7 ?_ | refine qh rfl ?_ | skip)
  (repeat (first | refine yw ?_ | ((first | apply yd | apply ye); simp (disch := first|exact zz|fail) only [go_sem, hl.len, hl.idx, hl.load]; with_reducible rfl)))
  refine cond_p rfl (fun hgt => ?_) (fun hle => ?_)
  · (refine yg ?_)
    have hm : mappedL f l = ([], 8) := by unfold mappedL; rw [if_neg (by omega)]
    rw [hm]
    exact fin_2 ⟨_, rfl, Ext.refl _, OwnI.nil _ _⟩
  · have hm : mappedL f l = mapGo f l [] := by unfold mappedL; rw [if_pos (by omega)]
    rw [hm]
    (repeat (first | refine yw ?_ | ((first | apply yd | apply ye); simp (disch := first|exact zz|fail) only [go_sem, hl.len, hl.idx, hl.load]; with_reducible rfl)))
    refine awp_loop_n [false, true, false, false, false, false, true, false, false, false, false, false, false, false, true, true, true, false, false, false, false, false, false, false, false, false, false, false, false, false, false, false, false, false, false] l.length (fun i e H1 => ∃ out v1, e = [junk, fv, junk, junk, junk, junk, v1, junk, junk, junk, junk, junk, junk, junk, v, .int .i64 l.length, .int .i64 i, junk, junk, junk, junk, junk, junk, junk, junk, junk, junk, junk, junk, junk, junk, junk, junk, junk, junk] ∧ OwnI H H1 out v1 ∧ Ext H H1 ∧ out.length = i ∧ mapGo f (l.drop i) out = mapGo f l []) ?_ ?_
    · exact ⟨[], _, by simp [forget], OwnI.nil _ _, Ext.refl _, rfl, rfl⟩
    · rintro i e H1 hi ⟨out, v1, rfl, ho, hx, hlo, hv⟩
      (refine yg ?_)
      refine cond_p rfl (fun hlt => ?_) (fun hge => ?_)
      · rw [mapGo_step (by omega)] at hv
        have hi' : i < l.length := by omega
        obtain ⟨r1, -, -, -, -⟩ := Pairs.load hl hx hi'
        (repeat (first | refine yw ?_ | ((first | apply yd | apply ye); simp (disch := first|exact zz|fail) only [go_sem, hl.len, hl.idx, hl.load, r1]; with_reducible rfl)))
        refine aops_call_to (hf _ _ (hin i).1 (hin i).2) ?_
        by_cases he : (f (l.getD i (0, 0))).2 = 0
        · rw [if_pos he] at hv
          skip
          (repeat (first | refine yw ?_ | ((first | apply yd | apply ye); simp (disch := first|exact zz|fail) only [go_sem, he]; with_reducible rfl)))
          refine cond_f rfl ?_
          (repeat (first | refine yw ?_ | ((first | apply yd | apply ye); simp (disch := first|exact zz|fail) only [go_sem, fun N => (ho.app N).push (by omega)]; with_reducible rfl)))
          refine ⟨by omega, _, _, ?_, (ho.app _).pushed (hx.app _) _, (ho.app _).ext (hx.app _) _, by simp [hlo], hv⟩
          simp [forget]
        · rw [if_neg he] at hv
          skip
          (repeat (first | refine yw ?_ | ((first | apply yd | apply ye); simp (disch := first|exact zz|fail) only [go_sem, dec_t]; with_reducible rfl)))
          refine cond_t rfl ?_
          (refine yg ?_)
          rw [← hv]
          exact fin_2 ⟨_, rfl, (hx.app _), OwnI.nil _ _⟩
      · (refine yg ?_)
        rw [mapGo_end (by omega)] at hv
        rw [← hv]
        exact fin_2 ⟨_, rfl, hx, ho⟩

def widF (p : Int × Int) : Int × Int := ((matF p).1.2, (matF p).2)
theorem widthOf_m : MapsI (.func (.func 19) #[] #[]) widF := fun p _ h1 h2 => widthOf_c p h1 h2

theorem widths_c {l : List (Int × Int)} {v : Value} (hl : Pairs H l v) (hin : InP l) (hb : l.length ≤ 1000000000) :
    ACall Go.Proofs.Try.prog 8 [v] H (IntsRes H (mappedL widF l).1 (mappedL widF l).2) := by
  (refine a8 ?_; simp only [n8, List.replicate, yq, yr, yt, yu]; first | refine q1 ?_ | refine q2 ?_ | refine q6 ?_ | refine q7 ?_ | refine qh rfl ?_ | skip)
  (refine yg ?_)
  refine aops_call ((mappedI_c hl hin widthOf_m hb).mono fun v1 H1 h => ?_)
  have hh := h
  obtain ⟨rfl, rfl⟩ := h
  (refine yg ?_)
  exact fin_2 hh
theorem matrices_c {l : List (Int × Int)} {v : Value} (hl : Pairs H l v) (hin : InP l) (hb : l.length ≤ 1000000000) :
    ACall Go.Proofs.Try.prog 6 [v] H (PairsRes H (mappedL matF l).1 (mappedL matF l).2) := by
  (refine a6 ?_; simp only [n6, List.replicate, yq, yr, yt, yu]; first | refine q1 ?_ | refine q2 ?_ | refine q6 ?_ | refine q7 ?_ | refine qh rfl ?_ | skip)
  (refine yg ?_)
  refine aops_call ((mappedM_c hl hin matrixOf_c hb).mono fun v1 H1 h => ?_)
  have hh := h
  obtain ⟨rfl, rfl⟩ := h
  (refine yg ?_)
  exact fin_2 hh
theorem walls_c {l : List (Int × Int)} {v : Value} (hl : Pairs H l v) (hin : InP l) (hb : l.length ≤ 1000000000) :
    ACall Go.Proofs.Try.prog 12 [v] H (PairsRes H (mappedL wallF l).1 (mappedL wallF l).2) := by
  (refine a12 ?_; simp only [n12, List.replicate, yq, yr, yt, yu]; first | refine q1 ?_ | refine q2 ?_ | refine q6 ?_ | refine q7 ?_ | refine qh rfl ?_ | skip)
  (refine yg ?_)
  refine aops_call ((mappedW_c hl hin wallsOf_c hb).mono fun v1 H1 h => ?_)
  have hh := h
  obtain ⟨rfl, rfl⟩ := h
  (refine yg ?_)
  exact fin_2 hh

theorem positionsErrL_two (x y : Int) : positionsErrL [x, y] = if sizedB 1000000 x && sizedB 1000000 y then 0 else 2 := by
  simp [positionsErrL]

theorem refWallsErr_c {l : List (Int × Int)} {v : Value} (hl : Pairs H l v) (hb : l.length ≤ 1000000000) :
    ACall Go.Proofs.Try.prog 5 [v] H fun v H' => v = .int .i64 (mappedL matF l).2 ∧ H' = H := by
  refine ACall.drop (.int _ _) ?_
  (refine a5 ?_; simp only [n5, List.replicate, yq, yr, yt, yu]; first | refine q1 ?_ | refine q2 ?_ | refine q6 ?_ | refine q7 ?_ | refine qh rfl ?_ | skip)
  (repeat (first | refine yw ?_ | ((first | apply yd | apply ye); simp (disch := first|exact zz|fail) only [go_sem, hl.len, hl.idx, hl.load]; with_reducible rfl)))
  refine cond_p rfl (fun hgt => ?_) (fun hle => ?_)
  · (refine yg ?_)
    have hm : mappedL matF l = ([], 8) := by unfold mappedL; rw [if_neg (by omega)]
    rw [hm]
    exact fin_1 ⟨rfl, Ext.refl _⟩
  · have hm : mappedL matF l = mapGo matF l [] := by unfold mappedL; rw [if_pos (by omega)]
    rw [hm]
    (refine yg ?_)
    refine awp_loop_n [true, false, false, true, false, false, false, false, false, false, false, false, false, false, false, false, false, false, false, false, false, false, false, false, false, false, false, false, false, false, false, false, false, false, false, false, false, false, false, false] l.length (fun i e H1 => ∃ out, e = [v, junk, junk, .int .i64 i, junk, junk, junk, junk, junk, junk, junk, junk, junk, junk, junk, junk, junk, junk, junk, junk, junk, junk, junk, junk, junk, junk, junk, junk, junk, junk, junk, junk, junk, junk, junk, junk, junk, junk, junk, junk] ∧ Ext H H1 ∧ mapGo matF (l.drop i) out = mapGo matF l []) ?_ ?_
    · exact ⟨[], by simp [forget], Ext.refl _, rfl⟩
    · rintro i e H1 hi ⟨out, rfl, hx, hv⟩
      (repeat (first | refine yw ?_ | ((first | apply yd | apply ye); simp (disch := first|exact zz|fail) only [go_sem, hl.len, hl.idx, hl.load]; with_reducible rfl)))
      refine cond_p rfl (fun hlt => ?_) (fun hge => ?_)
      · rw [mapGo_step (by omega)] at hv
        have hi' : i < l.length := by omega
        obtain ⟨-, r2, r3, r4, r5⟩ := Pairs.load hl hx hi'
        obtain ⟨-, r2', r3', r4', r5'⟩ := Pairs.load hl (hx.app [.cells true 1 [.int .i64 (l.getD i (0, 0)).1, .int .i64 (l.getD i (0, 0)).2]]) hi'
        (repeat (first | refine yw ?_ | ((first | apply yd | apply ye); simp (disch := first|exact zz|fail) only [go_sem, hl.len, hl.idx, hl.load, r2, r3, r4, r5]; with_reducible rfl)))
        refine adraw_call (N := []) (firstD (refPositionsErr_c (l := [_, _]) (Ints.last (l := [_, _]) 2) (by simp))) ?_
        rw [positionsErrL_two]
        by_cases hs : (sizedB 1000000 (l.getD i (0, 0)).1 && sizedB 1000000 (l.getD i (0, 0)).2) = true
        · rw [if_pos hs]
          (repeat (first | refine yw ?_ | ((first | apply yd | apply ye); simp (disch := first|exact zz|fail) only [go_sem, List.append_nil]; with_reducible rfl)))
          refine cond_f rfl ?_
          (repeat (first | refine yw ?_ | ((first | apply yd | apply ye); simp (disch := first|exact zz|fail) only [go_sem, hl.len, hl.idx, hl.load, r2', r3', r4', r5']; with_reducible rfl)))
          refine cond_p rfl (fun hgt => ?_) (fun hle2 => ?_)
          · have he : (matF (l.getD i (0, 0))).2 = 9 := by
              unfold matF; rw [if_pos hs, if_neg (by omega)]
            rw [he] at hv
            (refine yg ?_)
            rw [← hv]
            exact fin_1 ⟨rfl, hx.app _⟩
          · have he : (matF (l.getD i (0, 0))).2 = 0 := by
              unfold matF; rw [if_pos hs, if_pos (by omega)]
            rw [he, if_pos rfl] at hv
            (refine yg ?_)
            refine ⟨by omega, _, ?_, hx.app _, hv⟩
            simp [forget]
        · rw [if_neg hs]
          have he : (matF (l.getD i (0, 0))).2 = 2 := by
            unfold matF; rw [if_neg hs]
          rw [he] at hv
          (repeat (first | refine yw ?_ | ((first | apply yd | apply ye); simp (disch := first|exact zz|fail) only [go_sem, List.append_nil, dec_t]; with_reducible rfl)))
          refine cond_t rfl ?_
          (refine yg ?_)
          rw [← hv]
          exact fin_1 ⟨rfl, hx.app _⟩
      · (refine yg ?_)
        rw [mapGo_end (by omega)] at hv
        rw [← hv]
        exact fin_1 ⟨rfl, hx⟩

end
end Go.Lq

namespace Go.Lq
open Go

theorem mapGo_ok {β : Type} {f : Int × Int → β × Int} : ∀ {l : List (Int × Int)} {out : List β}, (mapGo f l out).2 = 0 → (mapGo f l out).1 = out ++ l.map (fun p => (f p).1) ∧ ∀ p ∈ l, (f p).2 = 0
  | [], out, _ => by simp [mapGo]
  | a :: l, out, h => by
    unfold mapGo at h ⊢
    by_cases h0 : (f a).2 = 0
    · rw [if_pos h0] at h ⊢
      obtain ⟨h1, h2⟩ := mapGo_ok h
      rw [h1]
      refine ⟨by simp, fun p hp => ?_⟩
      rcases List.mem_cons.1 hp with rfl | hp
      · exact h0
      · exact h2 p hp
    · rw [if_neg h0] at h; exact absurd h h0
theorem mapGo_same {β γ : Type} {f : Int × Int → β × Int} {g : Int × Int → γ × Int} (hfg : ∀ p, (f p).2 = (g p).2) : ∀ {l : List (Int × Int)} {out : List β} {out2 : List γ}, (mapGo f l out).2 = (mapGo g l out2).2
  | [], out, out2 => rfl
  | a :: l, out, out2 => by
    unfold mapGo
    rw [hfg a]
    by_cases h0 : (g a).2 = 0
    · rw [if_pos h0, if_pos h0]; exact mapGo_same hfg
    · rw [if_neg h0, if_neg h0]
theorem mapGo_of {β : Type} {f : Int × Int → β × Int} : ∀ {l : List (Int × Int)} {out : List β}, (∀ p ∈ l, (f p).2 = 0) → mapGo f l out = (out ++ l.map (fun p => (f p).1), 0)
  | [], out, _ => by simp [mapGo]
  | a :: l, out, h => by
    unfold mapGo
    rw [if_pos (h a (by simp)), mapGo_of fun p hp => h p (by simp [hp])]
    simp
theorem mappedL_ok {β : Type} {f : Int × Int → β × Int} {l : List (Int × Int)} (h : (mappedL f l).2 = 0) : (mappedL f l).1 = l.map (fun p => (f p).1) ∧ (∀ p ∈ l, (f p).2 = 0) ∧ l.length ≤ 200 := by
  unfold mappedL at *
  split
  · rename_i hl; rw [if_pos hl] at h; obtain ⟨h1, h2⟩ := mapGo_ok h; exact ⟨by simpa using h1, h2, hl⟩
  · rename_i hl; rw [if_neg hl] at h; cases h
theorem mappedL_same {β γ : Type} {f : Int × Int → β × Int} {g : Int × Int → γ × Int} (hfg : ∀ p, (f p).2 = (g p).2) {l : List (Int × Int)} : (mappedL f l).2 = (mappedL g l).2 := by
  unfold mappedL
  split
  · exact mapGo_same hfg
  · rfl
theorem matF_ok {p : Int × Int} (h : (matF p).2 = 0) : (matF p).1 = (p.1 + p.2, p.2 - p.1) ∧ (-1000000 ≤ p.1 ∧ p.1 ≤ 1000000) ∧ (-1000000 ≤ p.2 ∧ p.2 ≤ 1000000) ∧ p.1 ≤ p.2 := by
  unfold matF at *
  by_cases h1 : (sizedB 1000000 p.1 && sizedB 1000000 p.2) = true
  · rw [if_pos h1] at h ⊢
    by_cases h2 : p.1 ≤ p.2
    · rw [if_pos h2]
      simp only [Bool.and_eq_true] at h1
      exact ⟨rfl, by simpa [sizedB] using h1.1, by simpa [sizedB] using h1.2, h2⟩
    · rw [if_neg h2] at h; cases h
  · rw [if_neg h1] at h; cases h
theorem wallF_mat {p : Int × Int} (h : (matF p).2 = 0) : wallF (matF p).1 = (p, 0) := by
  obtain ⟨e, h1, h2, h3⟩ := matF_ok h
  rw [e]
  obtain ⟨a, b⟩ := p
  simp only at *
  have e1 : a + b - (b - a) = 2 * a := by omega
  have e2 : a + b + (b - a) = 2 * b := by omega
  have d1 : (2 * a).tdiv 2 = a := Int.mul_tdiv_cancel_left a (by decide)
  have d2 : (2 * b).tdiv 2 = b := Int.mul_tdiv_cancel_left b (by decide)
  have m1 : (2 * a).tmod 2 = 0 := Int.mul_tmod_right 2 a
  simp only [wallF, e1, e2, d1, d2, m1, sizedB_t (m := 2000000) (n := a + b) (by omega), sizedB_t (m := 2000000) (n := b - a) (by omega), sizedB_t h1, sizedB_t h2, Bool.and_self, if_true]
  rw [if_pos (by omega)]
theorem mappedL_back {l : List (Int × Int)} (h : (mappedL matF l).2 = 0) : mappedL wallF (mappedL matF l).1 = (l, 0) := by
  obtain ⟨h1, h2, h3⟩ := mappedL_ok h
  rw [h1]
  unfold mappedL
  rw [if_pos (by simpa using h3), mapGo_of]
  · simp only [List.nil_append, List.map_map]
    congr 1
    have : ∀ p ∈ l, ((fun p => (wallF p).1) ∘ fun p => (matF p).1) p = p := fun p hp => by
      simp only [Function.comp, wallF_mat (h2 p hp)]
    rw [List.map_congr_left this]
    simp
  · intro q hq
    obtain ⟨p, hp, rfl⟩ := List.mem_map.1 hq
    rw [wallF_mat (h2 p hp)]

theorem getD_map_mat {l : List (Int × Int)} {β : Type} {d : β} {f : Int × Int → β} {i : Nat} (h : i < l.length) : (l.map f).getD i d = f (l.getD i (0, 0)) := by
  rw [List.getD_eq_getElem?_getD, List.getD_eq_getElem?_getD, List.getElem?_map, List.getElem?_eq_getElem h]; rfl

end Go.Lq

namespace Go.Lq
open Go

def Sized (m : Int) (l : List Int) : Prop := ∀ i : Nat, -m ≤ l.getD i 0 ∧ l.getD i 0 ≤ m
theorem sized_of {m : Int} (hm : 0 ≤ m) {l : List Int} (h : l.all (sizedB m) = true) : Sized m l := fun i => by
  by_cases hi : i < l.length
  · simpa [sizedB] using all_getD (d := 0) h hi
  · rw [List.getD_eq_getElem?_getD, List.getElem?_eq_none (by omega)]
    simp; omega
theorem sized_pos {l : List Int} (h : positionsErrL l = 0) : Sized 1000000 l ∧ l.length ≤ 200 := by
  unfold positionsErrL at h
  split at h
  · cases h
  · split at h
    · rename_i h1 h2; exact ⟨sized_of (by omega) h2, by omega⟩
    · cases h

def velGo : List Int → List Int
  | a :: b :: r => (b - a) :: velGo (b :: r)
  | _ => []
theorem velGo_step {l : List Int} {i : Nat} (h : i + 1 < l.length) : velGo (l.drop i) = (l.getD (i + 1) 0 - l.getD i 0) :: velGo (l.drop (i + 1)) := by
  rw [drop_getD (d := 0) (show i < l.length by omega), drop_getD (d := 0) h]
  rfl
theorem velGo_end {l : List Int} {i : Nat} (h : l.length ≤ i + 1) : velGo (l.drop i) = [] := by
  have : (l.drop i).length ≤ 1 := by simp; omega
  match l.drop i, this with
  | [], _ => rfl
  | [a], _ => rfl

def velL (l : List Int) : List Int × Int := if positionsErrL l = 0 then (if l = [] then ([], 10) else (velGo l, 0)) else ([], positionsErrL l)
theorem velL_err {l : List Int} (h : (velL l).2 ≠ 0) : (velL l).1 = [] := by
  unfold velL at *
  split
  · split
    · rfl
    · rename_i h1 h2; simp [h1, h2] at h
  · rfl
theorem velL_ok {l : List Int} (h : (velL l).2 = 0) : positionsErrL l = 0 ∧ l ≠ [] ∧ velL l = (velGo l, 0) := by
  unfold velL at *
  by_cases h1 : positionsErrL l = 0
  · by_cases h2 : l = []
    · rw [if_pos h1, if_pos h2] at h; cases h
    · exact ⟨h1, h2, by rw [if_pos h1, if_neg h2]⟩
  · rw [if_neg h1] at h; exact absurd h h1

def posGo : List Int → List Int → Int → List Int × Int
  | [], out, _ => (out, 0)
  | v :: r, out, c => if sizedB 2000000 v then (if sizedB 1000000 (c + v) then posGo r (out ++ [c + v]) (c + v) else ([], 23)) else ([], 2)
def positionsL (start : Int) (v : List Int) : List Int × Int :=
  if sizedB 1000000 start then (if v.length < 200 then posGo v [start] start else ([], 8)) else ([], 2)

section
variable {H : AHeap}

theorem velocities_c {l : List Int} {v : Value} (hl : Ints H l v) (hb : l.length ≤ 1000000000) : ACall Go.Proofs.Try.prog 10 [v] H (IntsRes H (velL l).1 (velL l).2) := by
  refine ACall.intsE ?_
  (refine a10 ?_; simp only [n10, List.replicate, yq, yr, yt, yu]; first | refine q1 ?_ | refine q2 ?_ | refine q6 ?_ | refine q7 ?_ | refine qh rfl ?_ | skip)
  (refine yg ?_)
  refine aops_call_to (positionsErr_c hl hb) ?_
  (repeat (first | refine yw ?_ | ((first | apply yd | apply ye); simp (disch := first|exact zz|fail) only [go_sem, hl.len, hl.idx, hl.load]; with_reducible rfl)))
  refine aops_call_to (unless_c _ _) ?_
  (refine yg ?_)
  refine aops_call_to (first_c (l := [_, _]) (Ints.last (l := [_, _]) 2) (by simp)) ?_
  have hfe : firstErr [positionsErrL l, if decide (0 < (l.length : Int)) = true then 0 else 10] = (velL l).2 := by
    unfold firstErr velL
    by_cases h1 : positionsErrL l = 0
    · by_cases h2 : l = []
      · subst h2; simp [h1]
      · have : 0 < l.length := List.length_pos_iff.2 h2
        simp [h1, h2, this]
    · simp [h1]
  rw [hfe]
  (refine yg ?_)
  refine cond_p rfl (fun hne => ?_) (fun heq => ?_)
  · (refine yg ?_)
    have : (velL l).1 = [] := velL_err hne
    rw [this]
    exact fin_2 ⟨_, rfl, Ext.app (Ext.refl _) _, OwnI.nil _ _⟩
  · obtain ⟨h1, h2, h3⟩ := velL_ok (Decidable.not_not.1 heq)
    rw [h3]
    have hpos : 0 < l.length := List.length_pos_iff.2 h2
    have hs := (sized_pos h1).1
    have ht := hl.rest (lo := 1) (by omega)
    (repeat (first | refine yw ?_ | ((first | apply yd | apply ye); simp (disch := first|exact zz|fail) only [go_sem, hl.len, hl.idx, hl.load, ht.len, ht.idx, ht.load, Sl.from hl, show (1 : Int).toNat = 1 from rfl]; with_reducible rfl)))
    rw [List.length_drop]
    refine awp_loop_n [true, false, false, false, false, true, false, false, false, false, false, false, false, false, false, false, false, false, false, false, true, true, true, false, false, false, false, false, false, false, false, false, false, false, false, false, false, false] (l.length - 1) (fun i e H1 => ∃ out v1, e = [v, junk, junk, junk, junk, v1, junk, junk, junk, junk, junk, junk, junk, junk, junk, junk, junk, junk, junk, junk, fromV 1 v 1, .int .i64 ((l.length - 1 : Nat) : Int), .int .i64 i, junk, junk, junk, junk, junk, junk, junk, junk, junk, junk, junk, junk, junk, junk, junk] ∧ OwnI H H1 out v1 ∧ Ext H H1 ∧ out.length = i ∧ out ++ velGo (l.drop i) = velGo l) ?_ ?_
    · exact ⟨[], _, by simp [forget], OwnI.nil _ _, Ext.app (Ext.refl _) _, rfl, rfl⟩
    · rintro i e H1 hi ⟨out, v1, rfl, ho, hx, hlen, hv⟩
      (refine yg ?_)
      refine cond_p rfl (fun hlt => ?_) (fun hge => ?_)
      · have s1 := hs i
        have s2 := hs (1 + i)
        have hg : (l.drop 1).getD i 0 = l.getD (1 + i) 0 := by simp [List.getD_eq_getElem?_getD, Nat.add_comm]
        have hl1 : i < (l.drop 1).length := by simp; omega
        (repeat (first | refine yw ?_ | ((first | apply yd | apply ye); simp (disch := first|exact zz|fail) only [go_sem, hl.len, hl.idx, hl.load, ht.len, ht.idx, ht.load, hg]; with_reducible rfl)))
        (repeat (first | refine yw ?_ | ((first | apply yd | apply ye); simp (disch := first|exact zz|fail) only [go_sem, hl.len, hl.idx, hl.load, ht.len, ht.idx, ht.load, hg, ho.push (by omega)]; with_reducible rfl)))
        refine ⟨by omega, _, _, ?_, ho.pushed hx _, ho.ext hx _, by simp [hlen], ?_⟩
        · simp [forget]
        · rw [velGo_step (by omega), show i + 1 = 1 + i by omega] at hv
          rw [List.append_assoc, show i + 1 = 1 + i by omega]
          exact hv
      · (refine yg ?_)
        refine fin_2 ⟨_, rfl, hx, ?_⟩
        rw [velGo_end (by omega), List.append_nil] at hv
        rw [← hv]
        exact ho

end
end Go.Lq

namespace Go.Lq
open Go

theorem posGo_step {v out : List Int} {c : Int} {i : Nat} (h : i < v.length) : posGo (v.drop i) out c =
    if sizedB 2000000 (v.getD i 0) then (if sizedB 1000000 (c + v.getD i 0) then posGo (v.drop (i + 1)) (out ++ [c + v.getD i 0]) (c + v.getD i 0) else ([], 23)) else ([], 2) := by
  rw [drop_getD (d := 0) h]; rfl
theorem posGo_end {v out : List Int} {c : Int} {i : Nat} (h : v.length ≤ i) : posGo (v.drop i) out c = (out, 0) := by
  rw [drop_end h]; rfl

section
variable {H : AHeap}

theorem positions_c {l : List Int} {v : Value} {s : Int} (hl : Ints H l v) (hb : l.length ≤ 1000000000) : ACall Go.Proofs.Try.prog 11 [.int .i64 s, v] H (IntsRes H (positionsL s l).1 (positionsL s l).2) := by
  refine ACall.intsE ?_
  (refine a11 ?_; simp only [n11, List.replicate, yq, yr, yt, yu]; first | refine q1 ?_ | refine q2 ?_ | refine q6 ?_ | refine q7 ?_ | refine qh rfl ?_ | skip)
  (refine yg ?_)
  refine aops_call_to (isSized_c _ _ (by omega)) ?_
  (refine yg ?_)
  refine aops_call_to (unless_c _ _) ?_
  (repeat (first | refine yw ?_ | ((first | apply yd | apply ye); simp (disch := first|exact zz|fail) only [go_sem, hl.len, hl.idx, hl.load]; with_reducible rfl)))
  refine aops_call_to (unless_c _ _) ?_
  (refine yg ?_)
  refine aops_call_to (first_c (l := [_, _]) (Ints.last (l := [_, _]) 2) (by simp)) ?_
  by_cases hs : sizedB 1000000 s = true
  · have hs' : -1000000 ≤ s ∧ s ≤ 1000000 := by simpa [sizedB] using hs
    by_cases hlen : l.length < 200
    · have hfe : firstErr [if decide (-1000000 ≤ s ∧ s ≤ 1000000) = true then 0 else 2, if decide ((l.length : Int) < 200) = true then 0 else 8] = 0 := by
        have : (l.length : Int) < 200 := by omega
        simp [firstErr, hs', this]
      have hsp : positionsL s l = posGo l [s] s := by simp [positionsL, hs, hlen]
      rw [hfe, hsp]
      (refine yg ?_)
      refine cond_f rfl ?_
      (repeat (first | refine yw ?_ | ((first | apply yd | apply ye); simp (disch := first|exact zz|fail) only [go_sem, hl.len, hl.idx, hl.load]; with_reducible rfl)))
      refine awp_loop_n [true, true, false, false, false, false, false, true, false, false, false, false, false, false, false, false, false, false, false, false, false, false, false, false, false, true, true, true, false, false, false, false, false, false, false, false, false, false, false, false, false, false, false, false, false, false, false, false, false, false] l.length (fun i e H1 => ∃ out v1 c, e = [.int .i64 s, v, junk, junk, junk, junk, junk, v1, junk, junk, junk, junk, junk, junk, junk, junk, junk, junk, junk, junk, junk, junk, junk, junk, junk, v, .int .i64 l.length, .int .i64 i, junk, junk, junk, junk, junk, junk, junk, junk, junk, junk, junk, junk, junk, junk, junk, junk, junk, junk, junk, junk, junk, junk] ∧ OwnI H H1 out v1 ∧ Ext H H1 ∧ out.length = i + 1 ∧
          out.getD i 0 = c ∧ (-1000000 ≤ c ∧ c ≤ 1000000) ∧ posGo (l.drop i) out c = posGo l [s] s) ?_ ?_
      · refine ⟨[s], _, s, by simp [forget], OwnI.last (l := [s]) (by simp) (by simp), (Ext.app (Ext.app (Ext.refl _) _) _), rfl, rfl, hs', rfl⟩
      · rintro i e H1 hi ⟨out, v1, c, rfl, ho, hx, hlo, hc, hcb, hv⟩
        (refine yg ?_)
        refine cond_p rfl (fun hlt => ?_) (fun hge => ?_)
        · rw [posGo_step (by omega)] at hv
          (repeat (first | refine yw ?_ | ((first | apply yd | apply ye); simp (disch := first|exact zz|fail) only [go_sem, hl.len, hl.idx, hl.load]; with_reducible rfl)))
          refine aops_call_to (isSized_c _ _ (by omega)) ?_
          (refine yg ?_)
          refine cond_n rfl (fun hbad => ?_) (fun hok => ?_)
          · (refine yg ?_)
            have : sizedB 2000000 (l.getD i 0) = false := by simpa [sizedB] using hbad
            rw [this] at hv
            rw [← hv]
            exact fin_2 ⟨_, rfl, hx, OwnI.nil _ _⟩
          · have hvs : sizedB 2000000 (l.getD i 0) = true := by simpa [sizedB] using hok
            rw [hvs, if_pos rfl] at hv
            (repeat (first | refine yw ?_ | ((first | apply yd | apply ye); simp (disch := first|exact zz|fail) only [go_sem, hl.len, hl.idx, hl.load, ho.ints.len, ho.ints.idx, ho.ints.load, hc]; with_reducible rfl)))
            refine aops_call_to (isSized_c _ _ (by omega)) ?_
            (refine yg ?_)
            refine cond_n rfl (fun hbad => ?_) (fun hok2 => ?_)
            · (refine yg ?_)
              have : sizedB 1000000 (c + l.getD i 0) = false := by simpa [sizedB] using hbad
              rw [this] at hv
              rw [← hv]
              exact fin_2 ⟨_, rfl, hx, OwnI.nil _ _⟩
            · have hvs2 : sizedB 1000000 (c + l.getD i 0) = true := by simpa [sizedB] using hok2
              rw [hvs2, if_pos rfl] at hv
              (repeat (first | refine yw ?_ | ((first | apply yd | apply ye); simp (disch := first|exact zz|fail) only [go_sem, ho.push (by omega)]; with_reducible rfl)))
              refine ⟨by omega, _, _, c + l.getD i 0, ?_, ho.pushed hx _, ho.ext hx _, by simp [hlo], ?_, hok2, hv⟩
              · simp [forget]
              · rw [← hlo]; exact getD_append_last
        · (refine yg ?_)
          rw [posGo_end (by omega)] at hv
          rw [← hv]
          exact fin_2 ⟨_, rfl, hx, ho⟩
    · have hfe : firstErr [if decide (-1000000 ≤ s ∧ s ≤ 1000000) = true then 0 else 2, if decide ((l.length : Int) < 200) = true then 0 else 8] = 8 := by
        have : ¬ (l.length : Int) < 200 := by omega
        simp [firstErr, hs', this]
      have hsp : positionsL s l = ([], 8) := by simp [positionsL, hs, hlen]
      rw [hfe, hsp]
      (refine yg ?_)
      refine cond_p rfl (fun _ => ?_) (fun h => absurd (by decide) h)
      (refine yg ?_)
      exact fin_2 ⟨_, rfl, Ext.app (Ext.refl _) _, OwnI.nil _ _⟩
  · have hs' : ¬ (-1000000 ≤ s ∧ s ≤ 1000000) := by simpa [sizedB] using hs
    have hfe : firstErr [if decide (-1000000 ≤ s ∧ s ≤ 1000000) = true then 0 else 2, if decide ((l.length : Int) < 200) = true then 0 else 8] = 2 := by
      simp [firstErr, hs']
    have hsp : positionsL s l = ([], 2) := by simp [positionsL, hs]
    rw [hfe, hsp]
    (refine yg ?_)
    refine cond_p rfl (fun _ => ?_) (fun h => absurd (by decide) h)
    (refine yg ?_)
    exact fin_2 ⟨_, rfl, Ext.app (Ext.refl _) _, OwnI.nil _ _⟩

end
end Go.Lq

namespace Go.Lq
open Go

theorem posGo_vel : ∀ (r out : List Int) (c : Int), (∀ i : Nat, -1000000 ≤ (c :: r).getD i 0 ∧ (c :: r).getD i 0 ≤ 1000000) → posGo (velGo (c :: r)) out c = (out ++ r, 0)
  | [], out, c, _ => by simp [velGo, posGo]
  | a :: r, out, c, h => by
    have h0 := h 0
    have h1 := h 1
    simp at h0 h1
    have e1 : sizedB 2000000 (a - c) = true := by simp [sizedB]; omega
    have e3 : c + (a - c) = a := by omega
    have e2 : sizedB 1000000 a = true := by simp [sizedB]; omega
    simp only [velGo, posGo, e1, e3, e2, if_true]
    rw [posGo_vel r _ a fun i => by have := h (i + 1); simpa using this]
    simp
theorem velGo_len : ∀ (l : List Int), (velGo l).length = l.length - 1
  | [] => rfl
  | [a] => rfl
  | a :: b :: r => by simp [velGo, velGo_len (b :: r)]
theorem positionsL_back {l : List Int} (h : positionsErrL l = 0) (hn : l ≠ []) : positionsL (l.getD 0 0) (velGo l) = (l, 0) := by
  obtain ⟨hs, hl⟩ := sized_pos h
  match l, hn with
  | c :: r, _ =>
    have h0 := hs 0
    have e1 : sizedB 1000000 c = true := by simpa [sizedB] using h0
    have e2 : (velGo (c :: r)).length < 200 := by rw [velGo_len]; simp at hl ⊢; omega
    simp only [positionsL, List.getD_cons_zero, e1, e2, if_true]
    rw [posGo_vel r _ c hs]
    simp

end Go.Lq
