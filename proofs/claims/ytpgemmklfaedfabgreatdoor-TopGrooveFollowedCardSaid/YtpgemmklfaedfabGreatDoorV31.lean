/- Towards TopGrooveFollowed of seat YtpgemmklfaedfabGreatDoor: it returns true for every input. Made out of the proof's own texts, merged. -/
import Derived.Test.YtpgemmklfaedfabGreatDoorProg
import Derived.KernelRfl
import Derived.Shelf.Strings.OnBuilder
import Derived.Shelf.Strconv.Itoa3
import Derived.Shelf.Strconv.AtoiAll
import Derived.Shelf.Strings.Search3
import Derived.Shelf.Strings.Prefix
import Derived.Shelf.LaysM
import Derived.Shelf.LaysC
import Derived.Lib.AppendIntMem
import Derived.Lib.AtoiErrMem
import Derived.Test.YtpgemmklfaedfabGreatDoorB4
set_option linter.unusedSimpArgs false
set_option linter.unnecessarySimpa false
set_option linter.unusedVariables false
set_option linter.unusedSectionVars false
set_option maxRecDepth 100000
namespace Go.Lq
open Go
theorem mo : Go.Proofs.Tryz.prog.follows .mixedOrders = true := by kernel_rfl
def R3 : RFunc :=
  ⟨(.seq (.ops [⟨some 1,.box (.tmp 0),none⟩,⟨some 2,.mov (.const (.bool false)),none⟩]) (.seq (.seq (.ops [⟨some 32,.call (.func 4) [],none⟩,⟨some 33,.not (.tmp 32),none⟩]) (.cond (.tmp 33) (.seq (.ops [⟨some 2,.mov (.const (.bool false)),none⟩]) .ret) .skip)) (.seq (.seq (.ops [⟨some 34,.fieldAddr 8 (.tmp 1),none⟩,⟨some 35,.load (.tmp 34),none⟩,⟨some 36,.call (.func 5) [.tmp 35,.const (.int .i64 1),.const (.int .i64 255)],none⟩,⟨some 37,.not (.tmp 36),none⟩,⟨some 38,.mov (.tmp 37),none⟩,⟨some 39,.fieldAddr 9 (.tmp 1),some (38,false)⟩,⟨some 40,.load (.tmp 39),some (38,false)⟩,⟨some 41,.call (.func 5) [.tmp 40,.const (.int .i64 0),.const (.int .i64 1000)],some (38,false)⟩,⟨some 42,.not (.tmp 41),some (38,false)⟩,⟨some 43,.pick (.tmp 38) (.const (.bool true)) (.tmp 42),none⟩,⟨some 44,.mov (.tmp 43),none⟩,⟨some 45,.fieldAddr 9 (.tmp 1),some (44,false)⟩,⟨some 46,.load (.tmp 45),some (44,false)⟩,⟨some 47,.arith .mul (.const (.int .i64 7)) (.tmp 46),some (44,false)⟩,⟨some 48,.fieldAddr 8 (.tmp 1),some (44,false)⟩,⟨some 49,.load (.tmp 48),some (44,false)⟩,⟨some 50,.cmp .geq (.tmp 47) (.tmp 49),some (44,false)⟩,⟨some 51,.pick (.tmp 44) (.const (.bool true)) (.tmp 50),none⟩,⟨some 52,.mov (.tmp 51),none⟩,⟨some 53,.fieldAddr 10 (.tmp 1),some (52,false)⟩,⟨some 54,.load (.tmp 53),some (52,false)⟩,⟨some 55,.call (.func 5) [(.tmp 54),(.const (.int .i64 (-1))),(.const (.int .i64 6))],some (52,false)⟩,⟨some 56,.not (.tmp 55),some (52,false)⟩,⟨some 57,.pick (.tmp 52) (.const (.bool true)) (.tmp 56),none⟩]) (.cond (.tmp 57) (.seq (.ops [⟨some 2,.mov (.const (.bool true)),none⟩]) .ret) .skip)) (.seq (.seq (.ops [⟨some 3,.mov (.const (.int .i64 0)),none⟩]) (.block 0 (.loop (.seq (.seq (.ops [⟨some 58,.mov (.tmp 3),none⟩,⟨some 59,.cmp .lss (.tmp 58) (.const (.int .i64 8)),none⟩]) (.cond (.tmp 59) .skip (.exit 0))) (.seq (.block 1 (.seq (.draw [(⟨some 62,.mov (.tmp 3),none⟩,false),(⟨some 63,.fieldAddr 0 (.tmp 1),none⟩,false),(⟨some 64,.idxAddrA 8 1 (.tmp 63) (.tmp 62),none⟩,false),(⟨some 65,.load (.tmp 64),none⟩,false),(⟨some 66,.call (.func 5) [.tmp 65,.const (.int .i64 1),.const (.int .i64 6)],none⟩,false),(⟨some 67,.not (.tmp 66),none⟩,false),(⟨some 68,.mov (.tmp 67),none⟩,false),(⟨some 69,.mov (.tmp 3),some (68,false)⟩,false),(⟨some 70,.cmp .gtr (.tmp 69) (.const (.int .i64 0)),some (68,false)⟩,false),(⟨some 71,.mov (.tmp 70),some (68,false)⟩,false),(⟨some 72,.mov (.tmp 3),some (71,true)⟩,false),(⟨some 73,.fieldAddr 0 (.tmp 1),some (71,true)⟩,false),(⟨some 74,.idxAddrA 8 1 (.tmp 73) (.tmp 72),some (71,true)⟩,false),(⟨some 75,.load (.tmp 74),some (71,true)⟩,false),(⟨some 76,.mov (.tmp 3),some (71,true)⟩,false),(⟨some 77,.arith .sub (.tmp 76) (.const (.int .i64 1)),some (71,true)⟩,false),(⟨some 78,.fieldAddr 0 (.tmp 1),some (71,true)⟩,false),(⟨some 79,.idxAddrA 8 1 (.tmp 78) (.tmp 77),some (71,true)⟩,false),(⟨some 80,.load (.tmp 79),some (71,true)⟩,false),(⟨some 81,.arith .sub (.tmp 75) (.tmp 80),some (71,true)⟩,false),(⟨some 82,.call (.func 5) [(.tmp 81),(.const (.int .i64 (-1))),(.const (.int .i64 1))],some (71,true)⟩,false),(⟨some 83,.not (.tmp 82),some (71,true)⟩,false),(⟨some 84,.pick (.tmp 71) (.tmp 83) (.const (.bool false)),some (68,false)⟩,false),(⟨some 85,.pick (.tmp 68) (.const (.bool true)) (.tmp 84),none⟩,false)]) (.cond (.tmp 85) (.seq (.ops [⟨some 2,.mov (.const (.bool true)),none⟩]) .ret) .skip))) (.ops [⟨some 60,.mov (.tmp 3),none⟩,⟨some 61,.arith .add (.tmp 60) (.const (.int .i64 1)),none⟩,⟨some 3,.mov (.tmp 61),none⟩])))))) (.seq (.ops [⟨some 4,.new [.slice none 0 0],none⟩]) (.seq (.seq (.ops [⟨some 5,.mov (.const (.int .i64 0)),none⟩]) (.block 2 (.loop (.seq (.seq (.ops [⟨some 86,.mov (.tmp 5),none⟩,⟨some 87,.cmp .lss (.tmp 86) (.const (.int .i64 13)),none⟩]) (.cond (.tmp 87) .skip (.exit 2))) (.seq (.block 3 (.seq (.ops [⟨some 90,.mkSlice 8 [.int .i64 0] (.const (.int .i64 13)) (.const (.int .i64 13)),none⟩,⟨some 6,.mov (.tmp 90),none⟩]) (.seq (.seq (.ops [⟨some 7,.mov (.const (.int .i64 0)),none⟩]) (.block 4 (.loop (.seq (.seq (.ops [⟨some 91,.mov (.tmp 7),none⟩,⟨some 92,.cmp .lss (.tmp 91) (.const (.int .i64 13)),none⟩]) (.cond (.tmp 92) .skip (.exit 4))) (.seq (.block 5 (.ops [⟨some 95,.mov (.tmp 6),none⟩,⟨some 96,.mov (.tmp 7),none⟩,⟨some 97,.fieldAddr 8 (.tmp 1),none⟩,⟨some 98,.load (.tmp 97),none⟩,⟨some 99,.idxAddr 1 (.tmp 95) (.tmp 96),none⟩,⟨none,.store 1 (.tmp 99) (.tmp 98),none⟩])) (.ops [⟨some 93,.mov (.tmp 7),none⟩,⟨some 94,.arith .add (.tmp 93) (.const (.int .i64 1)),none⟩,⟨some 7,.mov (.tmp 94),none⟩])))))) (.ops [⟨some 100,.fieldAddr 0 (.tmp 4),none⟩,⟨some 101,.load (.tmp 100),none⟩,⟨some 102,.mov (.tmp 6),none⟩,⟨some 103,.buildSlice 1 1 [.slice none 0 0] [(0,(1,(.tmp 102)))],none⟩,⟨some 104,.append 1 24 (.tmp 101) (.tmp 103),none⟩,⟨some 105,.fieldAddr 0 (.tmp 4),none⟩,⟨none,.store 1 (.tmp 105) (.tmp 104),none⟩])))) (.ops [⟨some 88,.mov (.tmp 5),none⟩,⟨some 89,.arith .add (.tmp 88) (.const (.int .i64 1)),none⟩,⟨some 5,.mov (.tmp 89),none⟩])))))) (.seq (.seq (.ops [⟨some 8,.mov (.const (.int .i64 0)),none⟩]) (.block 6 (.loop (.seq (.seq (.ops [⟨some 106,.mov (.tmp 8),none⟩,⟨some 107,.cmp .lss (.tmp 106) (.const (.int .i64 8)),none⟩]) (.cond (.tmp 107) .skip (.exit 6))) (.seq (.block 7 (.seq (.ops [⟨some 110,.mov (.tmp 8),none⟩,⟨some 111,.fieldAddr 10 (.tmp 1),none⟩,⟨some 112,.load (.tmp 111),none⟩,⟨some 113,.cmp .neq (.tmp 110) (.tmp 112),none⟩]) (.cond (.tmp 113) (.seq (.drawF [(9,(2,(.tmp 126)))] [(⟨some 114,.mov (.tmp 8),none⟩,false),(⟨some 115,.fieldAddr 0 (.tmp 1),none⟩,false),(⟨some 116,.idxAddrA 8 1 (.tmp 115) (.tmp 114),none⟩,false),(⟨some 117,.load (.tmp 116),none⟩,false),(⟨some 118,.call (.func 6) [.tmp 117],none⟩,false),(⟨some 119,.mov (.tmp 8),none⟩,false),(⟨some 120,.fieldAddr 0 (.tmp 1),none⟩,false),(⟨some 121,.idxAddrA 8 1 (.tmp 120) (.tmp 119),none⟩,false),(⟨some 122,.load (.tmp 121),none⟩,false),(⟨some 123,.mov (.tmp 8),none⟩,false),(⟨some 124,.arith .mul (.tmp 122) (.tmp 123),none⟩,false),(⟨some 125,.idxAddr 2 (.tmp 118) (.tmp 124),none⟩,false),(⟨some 126,.loadN 2 (.tmp 125),none⟩,false),(⟨none,.mov (.const (.bool false)),none⟩,false),(⟨none,.mov (.const (.bool false)),none⟩,false)]) (.draw [(⟨some 127,.fieldAddr 0 (.tmp 4),none⟩,false),(⟨some 128,.load (.tmp 127),none⟩,false),(⟨some 129,.fieldAddr 1 (.tmp 9),none⟩,false),(⟨some 130,.load (.tmp 129),none⟩,false),(⟨some 131,.arith .add (.const (.int .i64 6)) (.tmp 130),none⟩,false),(⟨some 132,.idxAddr 1 (.tmp 128) (.tmp 131),none⟩,false),(⟨some 133,.load (.tmp 132),none⟩,false),(⟨some 134,.fieldAddr 0 (.tmp 9),none⟩,false),(⟨some 135,.load (.tmp 134),none⟩,false),(⟨some 136,.arith .add (.const (.int .i64 6)) (.tmp 135),none⟩,false),(⟨some 137,.idxAddr 1 (.tmp 133) (.tmp 136),none⟩,false),(⟨none,.store 1 (.tmp 137) (.const (.int .i64 0)),none⟩,false)])) .skip))) (.ops [⟨some 108,.mov (.tmp 8),none⟩,⟨some 109,.arith .add (.tmp 108) (.const (.int .i64 1)),none⟩,⟨some 8,.mov (.tmp 109),none⟩])))))) (.seq (.ops [⟨some 139,.loadN 1 (.tmp 4),none⟩,⟨some 140,.call (.func 8) [.tmp 139],none⟩,⟨some 141,.build [.int .i64 0,.int .i64 0] [(0,(1,(.const (.int .i64 6)))),(1,(1,(.const (.int .i64 6))))],none⟩,⟨some 142,.build [.int .i64 0,.int .i64 0] [(0,(1,(.const (.int .i64 1)))),(1,(1,(.const (.int .i64 6))))],none⟩,⟨some 143,.build [.int .i64 0,.int .i64 0,.int .i64 0,.int .i64 0,.int .i64 0] [(0,(2,(.tmp 141))),(2,(2,(.tmp 142))),(4,(1,(.const (.int .i64 8))))],none⟩,⟨some 144,.call (.func 7) [.tmp 140,.tmp 143],none⟩,⟨some 138,.mov (.tmp 144),none⟩,⟨some 145,.extract (.tmp 138) 0,none⟩,⟨some 146,.extract (.tmp 138) 1,none⟩,⟨some 10,.mov (.tmp 145),none⟩,⟨some 11,.mov (.tmp 146),none⟩]) (.seq (.ops [⟨some 147,.mov (.tmp 10),none⟩,⟨some 148,.fieldAddr 9 (.tmp 1),none⟩,⟨some 149,.load (.tmp 148),none⟩,⟨some 150,.build [.slice none 0 0,.int .i64 0] [(0,(1,(.tmp 147))),(1,(1,(.tmp 149)))],none⟩,⟨some 12,.new [.slice none 0 0,.int .i64 0],none⟩,⟨none,.store 2 (.tmp 12) (.tmp 150),none⟩]) (.seq (.seq (.ops [⟨some 151,.mov (.tmp 11),none⟩,⟨some 152,.cmp .neq (.tmp 151) (.const (.int .i64 0)),none⟩,⟨some 153,.mov (.tmp 152),none⟩,⟨some 154,.mov (.tmp 10),some (153,false)⟩,⟨some 155,.len (.tmp 154),some (153,false)⟩,⟨some 156,.cmp .neq (.tmp 155) (.const (.int .i64 8)),some (153,false)⟩,⟨some 157,.pick (.tmp 153) (.const (.bool true)) (.tmp 156),none⟩,⟨some 158,.mov (.tmp 157),none⟩,⟨some 159,.loadN 2 (.tmp 12),some (158,false)⟩,⟨some 160,.call (.func 9) [.tmp 159],some (158,false)⟩,⟨some 161,.cmp .neq (.tmp 160) (.const (.int .i64 0)),some (158,false)⟩,⟨some 162,.pick (.tmp 158) (.const (.bool true)) (.tmp 161),none⟩]) (.cond (.tmp 162) (.seq (.ops [⟨some 2,.mov (.const (.bool false)),none⟩]) .ret) .skip)) (.seq (.ops [⟨some 164,.loadN 2 (.tmp 12),none⟩,⟨some 165,.call (.func 11) [.tmp 164],none⟩,⟨some 166,.call (.func 10) [.tmp 165],none⟩,⟨some 163,.mov (.tmp 166),none⟩,⟨some 167,.extract (.tmp 163) 0,none⟩,⟨some 168,.extract (.tmp 163) 1,none⟩,⟨some 169,.extract (.tmp 163) 2,none⟩,⟨some 13,.mov (.tmp 167),none⟩,⟨some 14,.mov (.tmp 168),none⟩,⟨some 15,.mov (.tmp 169),none⟩]) (.seq (.ops [⟨some 171,.loadN 2 (.tmp 12),none⟩,⟨some 172,.call (.func 11) [.tmp 171],none⟩,⟨some 173,.call (.func 12) [.tmp 172],none⟩,⟨some 170,.mov (.tmp 173),none⟩,⟨some 174,.extract (.tmp 170) 0,none⟩,⟨some 175,.extract (.tmp 170) 1,none⟩,⟨some 16,.mov (.tmp 174),none⟩,⟨some 17,.mov (.tmp 175),none⟩]) (.seq (.seq (.ops [⟨some 176,.mov (.tmp 15),none⟩,⟨some 177,.cmp .neq (.tmp 176) (.const (.int .i64 0)),none⟩,⟨some 178,.mov (.tmp 177),none⟩,⟨some 179,.mov (.tmp 17),some (178,false)⟩,⟨some 180,.cmp .neq (.tmp 179) (.const (.int .i64 0)),some (178,false)⟩,⟨some 181,.pick (.tmp 178) (.const (.bool true)) (.tmp 180),none⟩,⟨some 182,.mov (.tmp 181),none⟩,⟨some 183,.loadN 2 (.tmp 12),some (182,false)⟩,⟨some 184,.mov (.tmp 13),some (182,false)⟩,⟨some 185,.call (.func 13) [.tmp 183,.tmp 184],some (182,false)⟩,⟨some 186,.cmp .neq (.tmp 185) (.const (.int .i64 0)),some (182,false)⟩,⟨some 187,.pick (.tmp 182) (.const (.bool true)) (.tmp 186),none⟩]) (.cond (.tmp 187) (.seq (.ops [⟨some 2,.mov (.const (.bool false)),none⟩]) .ret) .skip)) (.seq (.ops [⟨some 189,.loadN 2 (.tmp 12),none⟩,⟨some 190,.call (.func 11) [.tmp 189],none⟩,⟨some 191,.mov (.tmp 16),none⟩,⟨some 192,.call (.func 15) [.tmp 191],none⟩,⟨some 193,.call (.func 14) [.tmp 190,.tmp 192],none⟩,⟨some 188,.mov (.tmp 193),none⟩,⟨some 194,.extract (.tmp 188) 0,none⟩,⟨some 195,.extract (.tmp 188) 1,none⟩,⟨some 18,.mov (.tmp 194),none⟩,⟨some 19,.mov (.tmp 195),none⟩]) (.seq (.seq (.ops [⟨some 196,.mov (.tmp 19),none⟩,⟨some 197,.cmp .neq (.tmp 196) (.const (.int .i64 0)),none⟩,⟨some 198,.mov (.tmp 197),none⟩,⟨some 199,.mov (.tmp 18),some (198,false)⟩,⟨some 200,.mov (.tmp 14),some (198,false)⟩,⟨some 201,.cmp .neq (.tmp 199) (.tmp 200),some (198,false)⟩,⟨some 202,.pick (.tmp 198) (.const (.bool true)) (.tmp 201),none⟩]) (.cond (.tmp 202) (.seq (.ops [⟨some 2,.mov (.const (.bool false)),none⟩]) .ret) .skip)) (.seq (.seq (.ops [⟨some 20,.mov (.const (.int .i64 0)),none⟩]) (.block 8 (.loop (.seq (.seq (.ops [⟨some 203,.mov (.tmp 20),none⟩,⟨some 204,.cmp .lss (.tmp 203) (.const (.int .i64 8)),none⟩]) (.cond (.tmp 204) .skip (.exit 8))) (.seq (.block 9 (.seq (.draw [(⟨some 207,.mov (.tmp 20),none⟩,false),(⟨some 208,.fieldAddr 10 (.tmp 1),none⟩,false),(⟨some 209,.load (.tmp 208),none⟩,false),(⟨some 210,.cmp .neq (.tmp 207) (.tmp 209),none⟩,false),(⟨some 211,.mov (.tmp 210),none⟩,false),(⟨some 212,.mov (.tmp 13),some (211,true)⟩,false),(⟨some 213,.mov (.tmp 20),some (211,true)⟩,false),(⟨some 214,.idxAddr 1 (.tmp 212) (.tmp 213),some (211,true)⟩,false),(⟨some 215,.load (.tmp 214),some (211,true)⟩,false),(⟨some 216,.mov (.tmp 20),some (211,true)⟩,false),(⟨some 217,.fieldAddr 0 (.tmp 1),some (211,true)⟩,false),(⟨some 218,.idxAddrA 8 1 (.tmp 217) (.tmp 216),some (211,true)⟩,false),(⟨some 219,.load (.tmp 218),some (211,true)⟩,false),(⟨some 220,.arith .sub (.tmp 219) (.const (.int .i64 1)),some (211,true)⟩,false),(⟨some 221,.cmp .neq (.tmp 215) (.tmp 220),some (211,true)⟩,false),(⟨some 222,.pick (.tmp 211) (.tmp 221) (.const (.bool false)),none⟩,false)]) (.cond (.tmp 222) (.seq (.ops [⟨some 2,.mov (.const (.bool false)),none⟩]) .ret) .skip))) (.ops [⟨some 205,.mov (.tmp 20),none⟩,⟨some 206,.arith .add (.tmp 205) (.const (.int .i64 1)),none⟩,⟨some 20,.mov (.tmp 206),none⟩])))))) (.seq (.ops [⟨some 224,.loadN 2 (.tmp 12),none⟩,⟨some 225,.call (.func 11) [.tmp 224],none⟩,⟨some 226,.mov (.tmp 13),none⟩,⟨some 227,.call (.func 17) [.tmp 226],none⟩,⟨some 228,.call (.func 16) [.tmp 225,.tmp 227,.const (.int .i64 0)],none⟩,⟨some 223,.mov (.tmp 228),none⟩,⟨some 229,.extract (.tmp 223) 0,none⟩,⟨some 230,.extract (.tmp 223) 1,none⟩,⟨some 21,.mov (.tmp 229),none⟩,⟨some 22,.mov (.tmp 230),none⟩]) (.seq (.seq (.ops [⟨some 231,.mov (.tmp 22),none⟩,⟨some 232,.cmp .neq (.tmp 231) (.const (.int .i64 0)),none⟩,⟨some 233,.mov (.tmp 232),none⟩,⟨some 234,.fieldAddr 10 (.tmp 1),some (233,false)⟩,⟨some 235,.load (.tmp 234),some (233,false)⟩,⟨some 236,.cmp .lss (.tmp 235) (.const (.int .i64 0)),some (233,false)⟩,⟨some 237,.mov (.tmp 236),some (233,false)⟩,⟨some 238,.mov (.tmp 21),some (237,true)⟩,⟨some 239,.len (.tmp 238),some (237,true)⟩,⟨some 240,.cmp .neq (.tmp 239) (.const (.int .i64 0)),some (237,true)⟩,⟨some 241,.pick (.tmp 237) (.tmp 240) (.const (.bool false)),some (233,false)⟩,⟨some 242,.pick (.tmp 233) (.const (.bool true)) (.tmp 241),none⟩,⟨some 243,.mov (.tmp 242),none⟩,⟨some 244,.fieldAddr 10 (.tmp 1),some (243,false)⟩,⟨some 245,.load (.tmp 244),some (243,false)⟩,⟨some 246,.cmp .geq (.tmp 245) (.const (.int .i64 0)),some (243,false)⟩,⟨some 247,.mov (.tmp 246),some (243,false)⟩,⟨some 248,.mov (.tmp 21),some (247,true)⟩,⟨some 249,.fieldAddr 10 (.tmp 1),some (247,true)⟩,⟨some 250,.load (.tmp 249),some (247,true)⟩,⟨some 251,.fieldAddr 10 (.tmp 1),some (247,true)⟩,⟨some 252,.load (.tmp 251),some (247,true)⟩,⟨some 253,.build [.int .i64 0,.int .i64 0] [(0,(1,(.tmp 250))),(1,(1,(.tmp 252)))],some (247,true)⟩,⟨some 254,.buildSlice 2 1 [.int .i64 0,.int .i64 0] [(0,(2,(.tmp 253)))],some (247,true)⟩,⟨some 255,.call (.func 18) [.tmp 248,.tmp 254],some (247,true)⟩,⟨some 256,.not (.tmp 255),some (247,true)⟩,⟨some 257,.pick (.tmp 247) (.tmp 256) (.const (.bool false)),some (243,false)⟩,⟨some 258,.pick (.tmp 243) (.const (.bool true)) (.tmp 257),none⟩]) (.cond (.tmp 258) (.seq (.ops [⟨some 2,.mov (.const (.bool false)),none⟩]) .ret) .skip)) (.seq (.ops [⟨some 260,.mov (.tmp 13),none⟩,⟨some 261,.call (.func 17) [.tmp 260],none⟩,⟨some 262,.buildSlice 2 0 [] [],none⟩,⟨some 263,.mov (.tmp 21),none⟩,⟨some 264,.append 2 16 (.tmp 262) (.tmp 263),none⟩,⟨some 265,.call (.func 19) [.tmp 261,.tmp 264],none⟩,⟨some 259,.mov (.tmp 265),none⟩,⟨some 266,.extract (.tmp 259) 0,none⟩,⟨some 267,.extract (.tmp 259) 1,none⟩,⟨some 23,.mov (.tmp 266),none⟩,⟨some 24,.mov (.tmp 267),none⟩]) (.seq (.seq (.ops [⟨some 268,.mov (.tmp 24),none⟩,⟨some 269,.cmp .neq (.tmp 268) (.const (.int .i64 0)),none⟩,⟨some 270,.mov (.tmp 269),none⟩,⟨some 271,.mov (.tmp 23),some (270,false)⟩,⟨some 272,.len (.tmp 271),some (270,false)⟩,⟨some 273,.cmp .neq (.tmp 272) (.const (.int .i64 8)),some (270,false)⟩,⟨some 274,.pick (.tmp 270) (.const (.bool true)) (.tmp 273),none⟩,⟨some 275,.mov (.tmp 274),none⟩,⟨some 276,.mov (.tmp 23),some (275,false)⟩,⟨some 277,.call (.func 20) [.tmp 276],some (275,false)⟩,⟨some 278,.cmp .neq (.tmp 277) (.const (.int .i64 0)),some (275,false)⟩,⟨some 279,.pick (.tmp 275) (.const (.bool true)) (.tmp 278),none⟩]) (.cond (.tmp 279) (.seq (.ops [⟨some 2,.mov (.const (.bool false)),none⟩]) .ret) .skip)) (.seq (.seq (.ops [⟨some 25,.mov (.const (.int .i64 0)),none⟩]) (.block 10 (.loop (.seq (.seq (.ops [⟨some 280,.mov (.tmp 25),none⟩,⟨some 281,.cmp .lss (.tmp 280) (.const (.int .i64 8)),none⟩]) (.cond (.tmp 281) .skip (.exit 10))) (.seq (.block 11 (.seq (.draw [(⟨some 284,.mov (.tmp 25),none⟩,false),(⟨some 285,.fieldAddr 10 (.tmp 1),none⟩,false),(⟨some 286,.load (.tmp 285),none⟩,false),(⟨some 287,.cmp .neq (.tmp 284) (.tmp 286),none⟩,false),(⟨some 288,.mov (.tmp 287),none⟩,false),(⟨some 289,.mov (.tmp 23),some (288,true)⟩,false),(⟨some 290,.mov (.tmp 25),some (288,true)⟩,false),(⟨some 291,.idxAddr 1 (.tmp 289) (.tmp 290),some (288,true)⟩,false),(⟨some 292,.load (.tmp 291),some (288,true)⟩,false),(⟨some 293,.mov (.tmp 25),some (288,true)⟩,false),(⟨some 294,.fieldAddr 0 (.tmp 1),some (288,true)⟩,false),(⟨some 295,.idxAddrA 8 1 (.tmp 294) (.tmp 293),some (288,true)⟩,false),(⟨some 296,.load (.tmp 295),some (288,true)⟩,false),(⟨some 297,.arith .sub (.tmp 296) (.const (.int .i64 1)),some (288,true)⟩,false),(⟨some 298,.cmp .neq (.tmp 292) (.tmp 297),some (288,true)⟩,false),(⟨some 299,.pick (.tmp 288) (.tmp 298) (.const (.bool false)),none⟩,false)]) (.cond (.tmp 299) (.seq (.ops [⟨some 2,.mov (.const (.bool false)),none⟩]) .ret) .skip))) (.ops [⟨some 282,.mov (.tmp 25),none⟩,⟨some 283,.arith .add (.tmp 282) (.const (.int .i64 1)),none⟩,⟨some 25,.mov (.tmp 283),none⟩])))))) (.seq (.ops [⟨some 301,.mov (.tmp 23),none⟩,⟨some 302,.call (.func 17) [.tmp 301],none⟩,⟨some 303,.call (.func 21) [.tmp 302],none⟩,⟨some 300,.mov (.tmp 303),none⟩,⟨some 304,.extract (.tmp 300) 0,none⟩,⟨some 305,.extract (.tmp 300) 1,none⟩,⟨some 26,.mov (.tmp 304),none⟩,⟨some 27,.mov (.tmp 305),none⟩]) (.seq (.seq (.ops [⟨some 306,.mov (.tmp 27),none⟩,⟨some 307,.cmp .neq (.tmp 306) (.const (.int .i64 0)),none⟩,⟨some 308,.mov (.tmp 307),none⟩,⟨some 309,.mov (.tmp 26),some (308,false)⟩,⟨some 310,.len (.tmp 309),some (308,false)⟩,⟨some 311,.cmp .neq (.tmp 310) (.const (.int .i64 7)),some (308,false)⟩,⟨some 312,.pick (.tmp 308) (.const (.bool true)) (.tmp 311),none⟩]) (.cond (.tmp 312) (.seq (.ops [⟨some 2,.mov (.const (.bool false)),none⟩]) .ret) .skip)) (.seq (.ops [⟨some 314,.mov (.tmp 23),none⟩,⟨some 315,.idxAddr 1 (.tmp 314) (.const (.int .i64 0)),none⟩,⟨some 316,.load (.tmp 315),none⟩,⟨some 317,.mov (.tmp 26),none⟩,⟨some 318,.call (.func 22) [.tmp 316,.tmp 317],none⟩,⟨some 313,.mov (.tmp 318),none⟩,⟨some 319,.extract (.tmp 313) 0,none⟩,⟨some 320,.extract (.tmp 313) 1,none⟩,⟨some 28,.mov (.tmp 319),none⟩,⟨some 29,.mov (.tmp 320),none⟩]) (.seq (.ops [⟨some 322,.mov (.tmp 23),none⟩,⟨some 323,.call (.func 17) [.tmp 322],none⟩,⟨some 324,.call (.func 24) [.tmp 323],none⟩,⟨some 325,.call (.func 23) [.tmp 324],none⟩,⟨some 321,.mov (.tmp 325),none⟩,⟨some 326,.extract (.tmp 321) 0,none⟩,⟨some 327,.extract (.tmp 321) 1,none⟩,⟨some 30,.mov (.tmp 326),none⟩,⟨some 31,.mov (.tmp 327),none⟩]) (.seq (.ops [⟨some 328,.mov (.tmp 29),none⟩,⟨some 329,.cmp .eql (.tmp 328) (.const (.int .i64 0)),none⟩,⟨some 330,.mov (.tmp 329),none⟩,⟨some 331,.mov (.tmp 28),some (330,true)⟩,⟨some 332,.mov (.tmp 23),some (330,true)⟩,⟨some 333,.call (.func 25) [.tmp 331,.tmp 332],some (330,true)⟩,⟨some 334,.pick (.tmp 330) (.tmp 333) (.const (.bool false)),none⟩,⟨some 335,.mov (.tmp 334),none⟩,⟨some 336,.mov (.tmp 31),some (335,true)⟩,⟨some 337,.cmp .eql (.tmp 336) (.const (.int .i64 0)),some (335,true)⟩,⟨some 338,.pick (.tmp 335) (.tmp 337) (.const (.bool false)),none⟩,⟨some 339,.mov (.tmp 338),none⟩,⟨some 340,.mov (.tmp 30),some (339,true)⟩,⟨some 341,.mov (.tmp 23),some (339,true)⟩,⟨some 342,.call (.func 25) [.tmp 340,.tmp 341],some (339,true)⟩,⟨some 343,.pick (.tmp 339) (.tmp 342) (.const (.bool false)),none⟩,⟨some 2,.mov (.tmp 343),none⟩]) .ret)))))))))))))))))))))))))),344,[.tmp 2]⟩
theorem c3 : compileFn Go.Proofs.Tryz.prog Go.Proofs.Tryz.f3 = some R3 := by kernel_rfl
theorem n3 : R3.ntmps = 344 := rfl
theorem a3 {args : List Value} {H : AHeap} {Q : Value → AHeap → Prop} (h : AWP Go.Proofs.Tryz.prog none R3.code (Fin R3 Q) (args ++ List.replicate (R3.ntmps - args.length) undef) H) : ACall Go.Proofs.Tryz.prog 3 args H Q := acall_intro mo Go.Proofs.Tryz.func3 c3 h
def R4 : RFunc :=
  ⟨(.seq (.ops [⟨some 0,.mov (.const (.bool false)),none⟩]) (.seq (.ops [⟨some 7,.call (.func 26) [],none⟩,⟨some 8,.call (.func 10) [.tmp 7],none⟩,⟨some 6,.mov (.tmp 8),none⟩,⟨some 9,.extract (.tmp 6) 0,none⟩,⟨some 10,.extract (.tmp 6) 1,none⟩,⟨some 11,.extract (.tmp 6) 2,none⟩,⟨some 1,.mov (.tmp 9),none⟩,⟨some 2,.mov (.tmp 10),none⟩,⟨some 3,.mov (.tmp 11),none⟩]) (.seq (.ops [⟨some 13,.build [.int .i64 0,.int .i64 0] [(0,(1,(.const (.int .i64 11)))),(1,(1,(.const (.int .i64 5))))],none⟩,⟨some 14,.buildSlice 2 1 [.int .i64 0,.int .i64 0] [(0,(2,(.tmp 13)))],none⟩,⟨some 15,.call (.func 27) [.tmp 14],none⟩,⟨some 12,.mov (.tmp 15),none⟩,⟨some 16,.extract (.tmp 12) 0,none⟩,⟨some 17,.extract (.tmp 12) 1,none⟩,⟨some 4,.mov (.tmp 16),none⟩,⟨some 5,.mov (.tmp 17),none⟩]) (.seq (.ops [⟨some 18,.mov (.tmp 3),none⟩,⟨some 19,.cmp .eql (.tmp 18) (.const (.int .i64 0)),none⟩,⟨some 20,.mov (.tmp 19),none⟩,⟨some 21,.mov (.tmp 2),some (20,true)⟩,⟨some 22,.cmp .eql (.tmp 21) (.const (.int .i64 5)),some (20,true)⟩,⟨some 23,.pick (.tmp 20) (.tmp 22) (.const (.bool false)),none⟩,⟨some 24,.mov (.tmp 23),none⟩,⟨some 25,.mov (.tmp 1),some (24,true)⟩,⟨some 26,.buildSlice 1 3 [.int .i64 0,.int .i64 0,.int .i64 0] [(0,(1,(.const (.int .i64 1)))),(1,(1,(.const (.int .i64 2)))),(2,(1,(.const (.int .i64 1))))],some (24,true)⟩,⟨some 27,.call (.func 25) [.tmp 25,.tmp 26],some (24,true)⟩,⟨some 28,.pick (.tmp 24) (.tmp 27) (.const (.bool false)),none⟩,⟨some 29,.mov (.tmp 28),none⟩,⟨some 30,.mov (.tmp 5),some (29,true)⟩,⟨some 31,.cmp .eql (.tmp 30) (.const (.int .i64 0)),some (29,true)⟩,⟨some 32,.pick (.tmp 29) (.tmp 31) (.const (.bool false)),none⟩,⟨some 33,.mov (.tmp 32),none⟩,⟨some 34,.mov (.tmp 4),some (33,true)⟩,⟨some 35,.len (.tmp 34),some (33,true)⟩,⟨some 36,.cmp .eql (.tmp 35) (.const (.int .i64 1)),some (33,true)⟩,⟨some 37,.pick (.tmp 33) (.tmp 36) (.const (.bool false)),none⟩,⟨some 38,.mov (.tmp 37),none⟩,⟨some 39,.mov (.tmp 4),some (38,true)⟩,⟨some 40,.idxAddr 2 (.tmp 39) (.const (.int .i64 0)),some (38,true)⟩,⟨some 41,.loadN 2 (.tmp 40),some (38,true)⟩,⟨some 42,.build [.int .i64 0,.int .i64 0] [(0,(1,(.const (.int .i64 3)))),(1,(1,(.const (.int .i64 8))))],some (38,true)⟩,⟨some 43,.eqAgg false [(0,false),(1,false)] (.tmp 41) (.tmp 42),some (38,true)⟩,⟨some 44,.pick (.tmp 38) (.tmp 43) (.const (.bool false)),none⟩,⟨some 0,.mov (.tmp 44),none⟩]) .ret)))),45,[.tmp 0]⟩
theorem c4 : compileFn Go.Proofs.Tryz.prog Go.Proofs.Tryz.f4 = some R4 := by kernel_rfl
theorem n4 : R4.ntmps = 45 := rfl
theorem a4 {args : List Value} {H : AHeap} {Q : Value → AHeap → Prop} (h : AWP Go.Proofs.Tryz.prog none R4.code (Fin R4 Q) (args ++ List.replicate (R4.ntmps - args.length) undef) H) : ACall Go.Proofs.Tryz.prog 4 args H Q := acall_intro mo Go.Proofs.Tryz.func4 c4 h
def R5 : RFunc :=
  ⟨(.seq (.ops [⟨some 6,.mov (.const (.bool false)),none⟩]) (.seq (.ops [⟨some 7,.mov (.tmp 1),none⟩,⟨some 8,.mov (.tmp 0),none⟩,⟨some 9,.cmp .leq (.tmp 7) (.tmp 8),none⟩,⟨some 10,.mov (.tmp 9),none⟩,⟨some 11,.mov (.tmp 0),some (10,true)⟩,⟨some 12,.mov (.tmp 2),some (10,true)⟩,⟨some 13,.cmp .leq (.tmp 11) (.tmp 12),some (10,true)⟩,⟨some 14,.pick (.tmp 10) (.tmp 13) (.const (.bool false)),none⟩,⟨some 6,.mov (.tmp 14),none⟩]) .ret)),15,[.tmp 6]⟩
theorem c5 : compileFn Go.Proofs.Tryz.prog Go.Proofs.Tryz.f5 = some R5 := by kernel_rfl
theorem n5 : R5.ntmps = 15 := rfl
theorem a5 {args : List Value} {H : AHeap} {Q : Value → AHeap → Prop} (h : AWP Go.Proofs.Tryz.prog none R5.code (Fin R5 Q) (args ++ List.replicate (R5.ntmps - args.length) undef) H) : ACall Go.Proofs.Tryz.prog 5 args H Q := acall_intro mo Go.Proofs.Tryz.func5 c5 h
def R6 : RFunc :=
  ⟨(.seq (.ops [⟨some 2,.mov (.const (.slice none 0 0)),none⟩]) (.seq (.ops [⟨some 3,.mov (.const (.slice none 0 0)),none⟩]) (.seq (.seq (.ops [⟨some 4,.mov (.const (.int .i64 0)),none⟩]) (.block 0 (.loop (.seq (.seq (.ops [⟨some 9,.mov (.tmp 4),none⟩,⟨some 10,.mov (.tmp 0),none⟩,⟨some 11,.cmp .leq (.tmp 9) (.tmp 10),none⟩]) (.cond (.tmp 11) .skip (.exit 0))) (.seq (.block 1 (.ops [⟨some 14,.mov (.tmp 3),none⟩,⟨some 15,.mov (.tmp 0),none⟩,⟨some 16,.mov (.tmp 4),none⟩,⟨some 17,.build [.int .i64 0,.int .i64 0] [(0,(1,(.tmp 15))),(1,(1,(.tmp 16)))],none⟩,⟨some 18,.buildSlice 2 1 [.int .i64 0,.int .i64 0] [(0,(2,(.tmp 17)))],none⟩,⟨some 19,.append 2 16 (.tmp 14) (.tmp 18),none⟩,⟨some 3,.mov (.tmp 19),none⟩])) (.ops [⟨some 12,.mov (.tmp 4),none⟩,⟨some 13,.arith .add (.tmp 12) (.const (.int .i64 1)),none⟩,⟨some 4,.mov (.tmp 13),none⟩])))))) (.seq (.seq (.ops [⟨some 20,.mov (.tmp 0),none⟩,⟨some 21,.arith .sub (.tmp 20) (.const (.int .i64 1)),none⟩,⟨some 5,.mov (.tmp 21),none⟩]) (.block 2 (.loop (.seq (.seq (.ops [⟨some 22,.mov (.tmp 5),none⟩,⟨some 23,.mov (.tmp 0),none⟩,⟨some 24,.neg (.tmp 23),none⟩,⟨some 25,.cmp .geq (.tmp 22) (.tmp 24),none⟩]) (.cond (.tmp 25) .skip (.exit 2))) (.seq (.block 3 (.ops [⟨some 28,.mov (.tmp 3),none⟩,⟨some 29,.mov (.tmp 5),none⟩,⟨some 30,.mov (.tmp 0),none⟩,⟨some 31,.build [.int .i64 0,.int .i64 0] [(0,(1,(.tmp 29))),(1,(1,(.tmp 30)))],none⟩,⟨some 32,.buildSlice 2 1 [.int .i64 0,.int .i64 0] [(0,(2,(.tmp 31)))],none⟩,⟨some 33,.append 2 16 (.tmp 28) (.tmp 32),none⟩,⟨some 3,.mov (.tmp 33),none⟩])) (.ops [⟨some 26,.mov (.tmp 5),none⟩,⟨some 27,.arith .sub (.tmp 26) (.const (.int .i64 1)),none⟩,⟨some 5,.mov (.tmp 27),none⟩])))))) (.seq (.seq (.ops [⟨some 34,.mov (.tmp 0),none⟩,⟨some 35,.arith .sub (.tmp 34) (.const (.int .i64 1)),none⟩,⟨some 6,.mov (.tmp 35),none⟩]) (.block 4 (.loop (.seq (.seq (.ops [⟨some 36,.mov (.tmp 6),none⟩,⟨some 37,.mov (.tmp 0),none⟩,⟨some 38,.neg (.tmp 37),none⟩,⟨some 39,.cmp .geq (.tmp 36) (.tmp 38),none⟩]) (.cond (.tmp 39) .skip (.exit 4))) (.seq (.block 5 (.ops [⟨some 42,.mov (.tmp 3),none⟩,⟨some 43,.mov (.tmp 0),none⟩,⟨some 44,.neg (.tmp 43),none⟩,⟨some 45,.mov (.tmp 6),none⟩,⟨some 46,.build [.int .i64 0,.int .i64 0] [(0,(1,(.tmp 44))),(1,(1,(.tmp 45)))],none⟩,⟨some 47,.buildSlice 2 1 [.int .i64 0,.int .i64 0] [(0,(2,(.tmp 46)))],none⟩,⟨some 48,.append 2 16 (.tmp 42) (.tmp 47),none⟩,⟨some 3,.mov (.tmp 48),none⟩])) (.ops [⟨some 40,.mov (.tmp 6),none⟩,⟨some 41,.arith .sub (.tmp 40) (.const (.int .i64 1)),none⟩,⟨some 6,.mov (.tmp 41),none⟩])))))) (.seq (.seq (.ops [⟨some 49,.mov (.tmp 0),none⟩,⟨some 50,.neg (.tmp 49),none⟩,⟨some 51,.arith .add (.tmp 50) (.const (.int .i64 1)),none⟩,⟨some 7,.mov (.tmp 51),none⟩]) (.block 6 (.loop (.seq (.seq (.ops [⟨some 52,.mov (.tmp 7),none⟩,⟨some 53,.mov (.tmp 0),none⟩,⟨some 54,.cmp .leq (.tmp 52) (.tmp 53),none⟩]) (.cond (.tmp 54) .skip (.exit 6))) (.seq (.block 7 (.ops [⟨some 57,.mov (.tmp 3),none⟩,⟨some 58,.mov (.tmp 7),none⟩,⟨some 59,.mov (.tmp 0),none⟩,⟨some 60,.neg (.tmp 59),none⟩,⟨some 61,.build [.int .i64 0,.int .i64 0] [(0,(1,(.tmp 58))),(1,(1,(.tmp 60)))],none⟩,⟨some 62,.buildSlice 2 1 [.int .i64 0,.int .i64 0] [(0,(2,(.tmp 61)))],none⟩,⟨some 63,.append 2 16 (.tmp 57) (.tmp 62),none⟩,⟨some 3,.mov (.tmp 63),none⟩])) (.ops [⟨some 55,.mov (.tmp 7),none⟩,⟨some 56,.arith .add (.tmp 55) (.const (.int .i64 1)),none⟩,⟨some 7,.mov (.tmp 56),none⟩])))))) (.seq (.seq (.ops [⟨some 64,.mov (.tmp 0),none⟩,⟨some 65,.neg (.tmp 64),none⟩,⟨some 66,.arith .add (.tmp 65) (.const (.int .i64 1)),none⟩,⟨some 8,.mov (.tmp 66),none⟩]) (.block 8 (.loop (.seq (.seq (.ops [⟨some 67,.mov (.tmp 8),none⟩,⟨some 68,.cmp .lss (.tmp 67) (.const (.int .i64 0)),none⟩]) (.cond (.tmp 68) .skip (.exit 8))) (.seq (.block 9 (.ops [⟨some 71,.mov (.tmp 3),none⟩,⟨some 72,.mov (.tmp 0),none⟩,⟨some 73,.mov (.tmp 8),none⟩,⟨some 74,.build [.int .i64 0,.int .i64 0] [(0,(1,(.tmp 72))),(1,(1,(.tmp 73)))],none⟩,⟨some 75,.buildSlice 2 1 [.int .i64 0,.int .i64 0] [(0,(2,(.tmp 74)))],none⟩,⟨some 76,.append 2 16 (.tmp 71) (.tmp 75),none⟩,⟨some 3,.mov (.tmp 76),none⟩])) (.ops [⟨some 69,.mov (.tmp 8),none⟩,⟨some 70,.arith .add (.tmp 69) (.const (.int .i64 1)),none⟩,⟨some 8,.mov (.tmp 70),none⟩])))))) (.seq (.ops [⟨some 77,.mov (.tmp 3),none⟩,⟨some 2,.mov (.tmp 77),none⟩]) .ret)))))))),78,[.tmp 2]⟩
theorem c6 : compileFn Go.Proofs.Tryz.prog Go.Proofs.Tryz.f6 = some R6 := by kernel_rfl
theorem n6 : R6.ntmps = 78 := rfl
theorem a6 {args : List Value} {H : AHeap} {Q : Value → AHeap → Prop} (h : AWP Go.Proofs.Tryz.prog none R6.code (Fin R6 Q) (args ++ List.replicate (R6.ntmps - args.length) undef) H) : ACall Go.Proofs.Tryz.prog 6 args H Q := acall_intro mo Go.Proofs.Tryz.func6 c6 h
def R7 : RFunc :=
  ⟨(.seq (.ops [⟨some 2,.box (.tmp 0),none⟩,⟨some 3,.box (.tmp 1),none⟩,⟨some 4,.mov (.const (.slice none 0 0)),none⟩,⟨some 5,.mov (.const (.int .i64 0)),none⟩]) (.seq (.ops [⟨some 6,.mov (.func 28),none⟩]) (.seq (.draw [(⟨some 12,.loadN 1 (.tmp 2),none⟩,false),(⟨some 13,.call (.func 31) [.tmp 12],none⟩,false),(⟨some 14,.mov (.tmp 6),none⟩,false),(⟨some 15,.fieldAddr 2 (.tmp 3),none⟩,false),(⟨some 16,.fieldAddr 0 (.tmp 15),none⟩,false),(⟨some 17,.load (.tmp 16),none⟩,false),(⟨some 18,.call (.tmp 14) [.tmp 17],none⟩,false),(⟨some 19,.mov (.tmp 18),none⟩,false),(⟨some 20,.mov (.tmp 6),some (19,true)⟩,false),(⟨some 21,.fieldAddr 2 (.tmp 3),some (19,true)⟩,false),(⟨some 22,.fieldAddr 1 (.tmp 21),some (19,true)⟩,false),(⟨some 23,.load (.tmp 22),some (19,true)⟩,false),(⟨some 24,.call (.tmp 20) [.tmp 23],some (19,true)⟩,false),(⟨some 25,.pick (.tmp 19) (.tmp 24) (.const (.bool false)),none⟩,false),(⟨some 26,.mov (.tmp 25),none⟩,false),(⟨some 27,.fieldAddr 4 (.tmp 3),some (26,true)⟩,false),(⟨some 28,.load (.tmp 27),some (26,true)⟩,false),(⟨some 29,.call (.func 29) [.tmp 28,.const (.int .i64 1),.const (.int .i64 40)],some (26,true)⟩,false),(⟨some 30,.pick (.tmp 26) (.tmp 29) (.const (.bool false)),none⟩,false),(⟨some 31,.call (.func 32) [.tmp 30,.const (.int .i64 2)],none⟩,false),(⟨some 32,.fieldAddr 2 (.tmp 3),none⟩,false),(⟨some 33,.fieldAddr 0 (.tmp 32),none⟩,false),(⟨some 34,.load (.tmp 33),none⟩,false),(⟨some 35,.fieldAddr 2 (.tmp 3),none⟩,false),(⟨some 36,.fieldAddr 1 (.tmp 35),none⟩,false),(⟨some 37,.load (.tmp 36),none⟩,false),(⟨some 38,.cmp .leq (.tmp 34) (.tmp 37),none⟩,false),(⟨some 39,.call (.func 32) [.tmp 38,.const (.int .i64 9)],none⟩,false),(⟨some 40,.fieldAddr 2 (.tmp 3),none⟩,false),(⟨some 41,.fieldAddr 1 (.tmp 40),none⟩,false),(⟨some 42,.load (.tmp 41),none⟩,false),(⟨some 43,.fieldAddr 2 (.tmp 3),none⟩,false),(⟨some 44,.fieldAddr 0 (.tmp 43),none⟩,false),(⟨some 45,.load (.tmp 44),none⟩,false),(⟨some 46,.arith .sub (.tmp 42) (.tmp 45),none⟩,false),(⟨some 47,.cmp .lss (.tmp 46) (.const (.int .i64 12)),none⟩,false),(⟨some 48,.call (.func 32) [.tmp 47,.const (.int .i64 8)],none⟩,false),(⟨some 49,.buildSlice 1 4 [.int .i64 0,.int .i64 0,.int .i64 0,.int .i64 0] [(0,(1,(.tmp 13))),(1,(1,(.tmp 31))),(2,(1,(.tmp 39))),(3,(1,(.tmp 48)))],none⟩,false),(⟨some 50,.call (.func 30) [.tmp 49],none⟩,false),(⟨some 7,.mov (.tmp 50),none⟩,false)]) (.seq (.seq (.ops [⟨some 51,.mov (.tmp 7),none⟩,⟨some 52,.cmp .eql (.tmp 51) (.const (.int .i64 0)),none⟩]) (.cond (.tmp 52) (.ops [⟨some 53,.loadN 1 (.tmp 2),none⟩,⟨some 54,.fieldAddr 0 (.tmp 3),none⟩,⟨some 55,.loadN 2 (.tmp 54),none⟩,⟨some 56,.fieldAddr 2 (.tmp 3),none⟩,⟨some 57,.fieldAddr 1 (.tmp 56),none⟩,⟨some 58,.load (.tmp 57),none⟩,⟨some 59,.call (.func 33) [.tmp 53,.tmp 55,.tmp 58],none⟩,⟨some 7,.mov (.tmp 59),none⟩]) .skip)) (.seq (.seq (.ops [⟨some 60,.mov (.tmp 7),none⟩,⟨some 61,.cmp .neq (.tmp 60) (.const (.int .i64 0)),none⟩]) (.cond (.tmp 61) (.seq (.ops [⟨some 62,.mov (.tmp 7),none⟩,⟨some 4,.mov (.const (.slice none 0 0)),none⟩,⟨some 5,.mov (.tmp 62),none⟩]) .ret) .skip)) (.seq (.ops [⟨some 63,.fieldAddr 4 (.tmp 3),none⟩,⟨some 64,.load (.tmp 63),none⟩,⟨some 65,.mkSlice 24 [.slice none 0 0] (.tmp 64) (.tmp 64),none⟩,⟨some 8,.mov (.tmp 65),none⟩]) (.seq (.seq (.ops [⟨some 66,.fieldAddr 2 (.tmp 3),none⟩,⟨some 67,.fieldAddr 0 (.tmp 66),none⟩,⟨some 68,.load (.tmp 67),none⟩,⟨some 9,.mov (.tmp 68),none⟩]) (.block 0 (.loop (.seq (.seq (.ops [⟨some 69,.mov (.tmp 9),none⟩,⟨some 70,.fieldAddr 2 (.tmp 3),none⟩,⟨some 71,.fieldAddr 1 (.tmp 70),none⟩,⟨some 72,.load (.tmp 71),none⟩,⟨some 73,.cmp .leq (.tmp 69) (.tmp 72),none⟩]) (.cond (.tmp 73) .skip (.exit 0))) (.seq (.block 1 (.seq (.ops [⟨some 76,.loadN 1 (.tmp 2),none⟩,⟨some 77,.fieldAddr 0 (.tmp 3),none⟩,⟨some 78,.loadN 2 (.tmp 77),none⟩,⟨some 79,.mov (.tmp 9),none⟩,⟨some 80,.call (.func 34) [.tmp 76,.tmp 78,.tmp 79],none⟩,⟨some 10,.mov (.tmp 80),none⟩]) (.seq (.ops [⟨some 81,.mov (.tmp 8),none⟩,⟨some 82,.len (.tmp 81),none⟩,⟨some 83,.mov (.const (.int .i64 0)),none⟩]) (.block 2 (.loop (.seq (.ops [⟨some 84,.cmp .lss (.tmp 83) (.tmp 82),none⟩]) (.seq (.cond (.tmp 84) .skip (.exit 2)) (.seq (.block 3 (.seq (.ops [⟨some 85,.mov (.tmp 83),none⟩,⟨some 11,.mov (.tmp 85),none⟩]) (.draw [(⟨some 86,.mov (.tmp 8),none⟩,false),(⟨some 87,.mov (.tmp 11),none⟩,false),(⟨some 88,.mov (.tmp 8),none⟩,false),(⟨some 89,.mov (.tmp 11),none⟩,false),(⟨some 90,.idxAddr 1 (.tmp 88) (.tmp 89),none⟩,false),(⟨some 91,.load (.tmp 90),none⟩,false),(⟨some 92,.mov (.tmp 10),none⟩,false),(⟨some 93,.mov (.tmp 10),none⟩,false),(⟨some 94,.len (.tmp 93),none⟩,false),(⟨some 95,.mov (.tmp 11),none⟩,false),(⟨some 96,.arith .mul (.tmp 94) (.tmp 95),none⟩,false),(⟨some 97,.fieldAddr 4 (.tmp 3),none⟩,false),(⟨some 98,.load (.tmp 97),none⟩,false),(⟨some 99,.arith .quo (.tmp 96) (.tmp 98),none⟩,false),(⟨some 100,.idxAddr 1 (.tmp 92) (.tmp 99),none⟩,false),(⟨some 101,.load (.tmp 100),none⟩,false),(⟨some 102,.buildSlice 1 1 [.int .i64 0] [(0,(1,(.tmp 101)))],none⟩,false),(⟨some 103,.append 1 8 (.tmp 91) (.tmp 102),none⟩,false),(⟨some 104,.idxAddr 1 (.tmp 86) (.tmp 87),none⟩,false),(⟨none,.store 1 (.tmp 104) (.tmp 103),none⟩,false)]))) (.ops [⟨some 105,.arith .add (.tmp 83) (.const (.int .i64 1)),none⟩,⟨some 83,.mov (.tmp 105),none⟩]))))))))) (.ops [⟨some 74,.mov (.tmp 9),none⟩,⟨some 75,.arith .add (.tmp 74) (.const (.int .i64 1)),none⟩,⟨some 9,.mov (.tmp 75),none⟩])))))) (.seq (.ops [⟨some 106,.mov (.tmp 8),none⟩,⟨some 4,.mov (.tmp 106),none⟩,⟨some 5,.mov (.const (.int .i64 0)),none⟩]) .ret)))))))),107,[.tmp 4,.tmp 5]⟩
theorem c7 : compileFn Go.Proofs.Tryz.prog Go.Proofs.Tryz.f7 = some R7 := by kernel_rfl
theorem n7 : R7.ntmps = 107 := rfl
theorem a7 {args : List Value} {H : AHeap} {Q : Value → AHeap → Prop} (h : AWP Go.Proofs.Tryz.prog none R7.code (Fin R7 Q) (args ++ List.replicate (R7.ntmps - args.length) undef) H) : ACall Go.Proofs.Tryz.prog 7 args H Q := acall_intro mo Go.Proofs.Tryz.func7 c7 h
def R8 : RFunc :=
  ⟨(.seq (.ops [⟨some 1,.box (.tmp 0),none⟩,⟨some 2,.new [.slice none 0 0],none⟩]) (.seq (.ops [⟨some 3,.fieldAddr 0 (.tmp 1),none⟩,⟨some 4,.load (.tmp 3),none⟩,⟨some 5,.call (.func 15) [.tmp 4],none⟩,⟨some 6,.build [.slice none 0 0] [(0,(1,(.tmp 5)))],none⟩,⟨none,.store 1 (.tmp 2) (.tmp 6),none⟩]) .ret)),7,[(.loadN 1 2)]⟩
theorem c8 : compileFn Go.Proofs.Tryz.prog Go.Proofs.Tryz.f8 = some R8 := by kernel_rfl
theorem n8 : R8.ntmps = 7 := rfl
theorem a8 {args : List Value} {H : AHeap} {Q : Value → AHeap → Prop} (h : AWP Go.Proofs.Tryz.prog none R8.code (Fin R8 Q) (args ++ List.replicate (R8.ntmps - args.length) undef) H) : ACall Go.Proofs.Tryz.prog 8 args H Q := acall_intro mo Go.Proofs.Tryz.func8 c8 h
def R9 : RFunc :=
  ⟨(.seq (.ops [⟨some 1,.box (.tmp 0),none⟩,⟨some 2,.mov (.const (.int .i64 0)),none⟩]) (.seq (.seq (.ops [⟨some 4,.fieldAddr 0 (.tmp 1),none⟩,⟨some 5,.load (.tmp 4),none⟩,⟨some 6,.call (.func 35) [.tmp 5],none⟩,⟨some 3,.mov (.tmp 6),none⟩]) (.seq (.ops [⟨some 7,.mov (.tmp 3),none⟩,⟨some 8,.cmp .neq (.tmp 7) (.const (.int .i64 0)),none⟩]) (.cond (.tmp 8) (.seq (.ops [⟨some 9,.mov (.tmp 3),none⟩,⟨some 2,.mov (.tmp 9),none⟩]) .ret) .skip))) (.seq (.seq (.ops [⟨some 10,.fieldAddr 1 (.tmp 1),none⟩,⟨some 11,.load (.tmp 10),none⟩,⟨some 12,.call (.func 5) [.tmp 11,.const (.int .i64 0),.const (.int .i64 1000)],none⟩,⟨some 13,.not (.tmp 12),none⟩]) (.cond (.tmp 13) (.seq (.ops [⟨some 2,.mov (.const (.int .i64 2)),none⟩]) .ret) .skip)) (.seq (.ops [⟨some 2,.mov (.const (.int .i64 0)),none⟩]) .ret)))),14,[.tmp 2]⟩
theorem c9 : compileFn Go.Proofs.Tryz.prog Go.Proofs.Tryz.f9 = some R9 := by kernel_rfl
theorem n9 : R9.ntmps = 14 := rfl
theorem a9 {args : List Value} {H : AHeap} {Q : Value → AHeap → Prop} (h : AWP Go.Proofs.Tryz.prog none R9.code (Fin R9 Q) (args ++ List.replicate (R9.ntmps - args.length) undef) H) : ACall Go.Proofs.Tryz.prog 9 args H Q := acall_intro mo Go.Proofs.Tryz.func9 c9 h
def R10 : RFunc :=
  ⟨(.seq (.ops [⟨some 1,.box (.tmp 0),none⟩,⟨some 2,.mov (.const (.slice none 0 0)),none⟩,⟨some 3,.mov (.const (.int .i64 0)),none⟩,⟨some 4,.mov (.const (.int .i64 0)),none⟩]) (.seq (.ops [⟨some 10,.loadN 2 (.tmp 1),none⟩,⟨some 11,.call (.func 36) [.tmp 10],none⟩,⟨some 9,.mov (.tmp 11),none⟩,⟨some 12,.extract (.tmp 9) 0,none⟩,⟨some 13,.extract (.tmp 9) 1,none⟩,⟨some 5,.new [.slice none 0 0,.int .i64 0],none⟩,⟨none,.store 2 (.tmp 5) (.tmp 12),none⟩,⟨some 6,.mov (.tmp 13),none⟩]) (.seq (.seq (.ops [⟨some 14,.mov (.tmp 6),none⟩,⟨some 15,.cmp .neq (.tmp 14) (.const (.int .i64 0)),none⟩]) (.cond (.tmp 15) (.seq (.ops [⟨some 16,.mov (.tmp 6),none⟩,⟨some 2,.mov (.const (.slice none 0 0)),none⟩,⟨some 3,.mov (.const (.int .i64 0)),none⟩,⟨some 4,.mov (.tmp 16),none⟩]) .ret) .skip)) (.seq (.ops [⟨some 17,.loadN 2 (.tmp 5),none⟩,⟨some 18,.call (.func 37) [(.tmp 17),(.func 38)],none⟩,⟨some 7,.mov (.tmp 18),none⟩]) (.seq (.ops [⟨some 19,.mov (.tmp 7),none⟩,⟨some 20,.idxAddr 1 (.tmp 19) (.const (.int .i64 0)),none⟩,⟨some 21,.load (.tmp 20),none⟩,⟨some 22,.call (.func 39) [.tmp 21],none⟩,⟨some 8,.mov (.tmp 22),none⟩]) (.seq (.draw [(⟨some 23,.loadN 2 (.tmp 5),none⟩,false),(⟨some 24,.mov (.tmp 7),none⟩,false),(⟨some 25,.mov (.tmp 7),none⟩,false),(⟨some 26,.idxAddr 1 (.tmp 25) (.const (.int .i64 0)),none⟩,false),(⟨some 27,.load (.tmp 26),none⟩,false),(⟨some 28,.mov (.tmp 8),none⟩,false),(⟨some 29,.call (.func 41) [.tmp 27,.tmp 28],none⟩,false),(⟨some 30,.call (.func 40) [.tmp 23,.tmp 24,.tmp 29],none⟩,false),(⟨some 31,.mov (.tmp 8),none⟩,false),(⟨some 2,.mov (.tmp 30),none⟩,false),(⟨some 3,.mov (.tmp 31),none⟩,false),(⟨some 4,.mov (.const (.int .i64 0)),none⟩,false)]) .ret)))))),32,[.tmp 2,.tmp 3,.tmp 4]⟩
theorem c10 : compileFn Go.Proofs.Tryz.prog Go.Proofs.Tryz.f10 = some R10 := by kernel_rfl
theorem n10 : R10.ntmps = 32 := rfl
theorem a10 {args : List Value} {H : AHeap} {Q : Value → AHeap → Prop} (h : AWP Go.Proofs.Tryz.prog none R10.code (Fin R10 Q) (args ++ List.replicate (R10.ntmps - args.length) undef) H) : ACall Go.Proofs.Tryz.prog 10 args H Q := acall_intro mo Go.Proofs.Tryz.func10 c10 h
def R11 : RFunc :=
  ⟨(.seq (.ops [⟨some 1,.box (.tmp 0),none⟩,⟨some 2,.new [.slice none 0 0,.int .i64 0],none⟩]) (.seq (.ops [⟨some 3,.fieldAddr 0 (.tmp 1),none⟩,⟨some 4,.load (.tmp 3),none⟩,⟨some 5,.call (.func 15) [.tmp 4],none⟩,⟨some 6,.fieldAddr 0 (.tmp 1),none⟩,⟨none,.store 1 (.tmp 6) (.tmp 5),none⟩]) (.seq (.ops [⟨some 7,.loadN 2 (.tmp 1),none⟩,⟨none,.store 2 (.tmp 2) (.tmp 7),none⟩]) .ret))),8,[(.loadN 2 2)]⟩
theorem c11 : compileFn Go.Proofs.Tryz.prog Go.Proofs.Tryz.f11 = some R11 := by kernel_rfl
theorem n11 : R11.ntmps = 8 := rfl
theorem a11 {args : List Value} {H : AHeap} {Q : Value → AHeap → Prop} (h : AWP Go.Proofs.Tryz.prog none R11.code (Fin R11 Q) (args ++ List.replicate (R11.ntmps - args.length) undef) H) : ACall Go.Proofs.Tryz.prog 11 args H Q := acall_intro mo Go.Proofs.Tryz.func11 c11 h
def R12 : RFunc :=
  ⟨(.seq (.ops [⟨some 1,.box (.tmp 0),none⟩,⟨some 2,.mov (.const (.slice none 0 0)),none⟩,⟨some 3,.mov (.const (.int .i64 0)),none⟩]) (.seq (.ops [⟨some 11,.loadN 2 (.tmp 1),none⟩,⟨some 12,.call (.func 36) [.tmp 11],none⟩,⟨some 10,.mov (.tmp 12),none⟩,⟨some 13,.extract (.tmp 10) 0,none⟩,⟨some 14,.extract (.tmp 10) 1,none⟩,⟨some 4,.new [.slice none 0 0,.int .i64 0],none⟩,⟨none,.store 2 (.tmp 4) (.tmp 13),none⟩,⟨some 5,.mov (.tmp 14),none⟩]) (.seq (.seq (.ops [⟨some 15,.mov (.tmp 5),none⟩,⟨some 16,.cmp .neq (.tmp 15) (.const (.int .i64 0)),none⟩]) (.cond (.tmp 16) (.seq (.ops [⟨some 17,.mov (.tmp 5),none⟩,⟨some 2,.mov (.const (.slice none 0 0)),none⟩,⟨some 3,.mov (.tmp 17),none⟩]) .ret) .skip)) (.seq (.ops [⟨some 18,.fieldAddr 0 (.tmp 1),none⟩,⟨some 19,.load (.tmp 18),none⟩,⟨some 20,.idxAddr 1 (.tmp 19) (.const (.int .i64 0)),none⟩,⟨some 21,.load (.tmp 20),none⟩,⟨some 22,.call (.func 42) [.tmp 21],none⟩,⟨some 23,.buildSlice 1 1 [.slice none 0 0] [(0,(1,(.tmp 22)))],none⟩,⟨some 6,.mov (.tmp 23),none⟩]) (.seq (.seq (.ops [⟨some 7,.mov (.const (.int .i64 1)),none⟩]) (.block 0 (.loop (.seq (.seq (.ops [⟨some 24,.mov (.tmp 7),none⟩,⟨some 25,.loadN 2 (.tmp 4),none⟩,⟨some 26,.call (.func 43) [.tmp 25],none⟩,⟨some 27,.cmp .leq (.tmp 24) (.tmp 26),none⟩]) (.cond (.tmp 27) .skip (.exit 0))) (.seq (.block 1 (.seq (.ops [⟨some 8,.mov (.const (.slice none 0 0)),none⟩]) (.seq (.seq (.ops [⟨some 30,.loadN 2 (.tmp 4),none⟩,⟨some 31,.call (.func 44) [.tmp 30],none⟩,⟨some 32,.mov (.const (.int .i64 0)),none⟩]) (.block 2 (.loop (.seq (.ops [⟨some 33,.cmp .lss (.tmp 32) (.tmp 31),none⟩]) (.seq (.cond (.tmp 33) .skip (.exit 2)) (.seq (.block 3 (.seq (.ops [⟨some 34,.mov (.tmp 32),none⟩,⟨some 9,.mov (.tmp 34),none⟩]) (.draw [(⟨some 35,.mov (.tmp 8),none⟩,false),(⟨some 36,.loadN 2 (.tmp 4),none⟩,false),(⟨some 37,.mov (.tmp 7),none⟩,false),(⟨some 38,.mov (.tmp 9),none⟩,false),(⟨some 39,.mov (.tmp 6),none⟩,false),(⟨some 40,.mov (.tmp 7),none⟩,false),(⟨some 41,.arith .sub (.tmp 40) (.const (.int .i64 1)),none⟩,false),(⟨some 42,.idxAddr 1 (.tmp 39) (.tmp 41),none⟩,false),(⟨some 43,.load (.tmp 42),none⟩,false),(⟨some 44,.call (.func 45) [.tmp 36,.tmp 37,.tmp 38,.tmp 43],none⟩,false),(⟨some 45,.buildSlice 1 1 [.int .i64 0] [(0,(1,(.tmp 44)))],none⟩,false),(⟨some 46,.append 1 8 (.tmp 35) (.tmp 45),none⟩,false),(⟨some 8,.mov (.tmp 46),none⟩,false)]))) (.ops [⟨some 47,.arith .add (.tmp 32) (.const (.int .i64 1)),none⟩,⟨some 32,.mov (.tmp 47),none⟩]))))))) (.ops [⟨some 48,.mov (.tmp 6),none⟩,⟨some 49,.mov (.tmp 8),none⟩,⟨some 50,.buildSlice 1 1 [.slice none 0 0] [(0,(1,(.tmp 49)))],none⟩,⟨some 51,.append 1 24 (.tmp 48) (.tmp 50),none⟩,⟨some 6,.mov (.tmp 51),none⟩])))) (.ops [⟨some 28,.mov (.tmp 7),none⟩,⟨some 29,.arith .add (.tmp 28) (.const (.int .i64 1)),none⟩,⟨some 7,.mov (.tmp 29),none⟩])))))) (.seq (.ops [⟨some 52,.mov (.tmp 6),none⟩,⟨some 2,.mov (.tmp 52),none⟩,⟨some 3,.mov (.const (.int .i64 0)),none⟩]) .ret)))))),53,[.tmp 2,.tmp 3]⟩
theorem c12 : compileFn Go.Proofs.Tryz.prog Go.Proofs.Tryz.f12 = some R12 := by kernel_rfl
theorem n12 : R12.ntmps = 53 := rfl
theorem a12 {args : List Value} {H : AHeap} {Q : Value → AHeap → Prop} (h : AWP Go.Proofs.Tryz.prog none R12.code (Fin R12 Q) (args ++ List.replicate (R12.ntmps - args.length) undef) H) : ACall Go.Proofs.Tryz.prog 12 args H Q := acall_intro mo Go.Proofs.Tryz.func12 c12 h
def R13 : RFunc :=
  ⟨(.seq (.ops [⟨some 2,.box (.tmp 0),none⟩,⟨some 4,.mov (.const (.int .i64 0)),none⟩]) (.seq (.seq (.ops [⟨some 6,.mov (.tmp 1),none⟩,⟨some 7,.len (.tmp 6),none⟩,⟨some 8,.fieldAddr 0 (.tmp 2),none⟩,⟨some 9,.load (.tmp 8),none⟩,⟨some 10,.len (.tmp 9),none⟩,⟨some 11,.cmp .neq (.tmp 7) (.tmp 10),none⟩]) (.cond (.tmp 11) (.seq (.ops [⟨some 4,.mov (.const (.int .i64 10)),none⟩]) .ret) .skip)) (.seq (.seq (.ops [⟨some 5,.mov (.const (.int .i64 0)),none⟩]) (.block 0 (.loop (.seq (.seq (.ops [⟨some 12,.mov (.tmp 5),none⟩,⟨some 13,.mov (.tmp 1),none⟩,⟨some 14,.len (.tmp 13),none⟩,⟨some 15,.cmp .lss (.tmp 12) (.tmp 14),none⟩]) (.cond (.tmp 15) .skip (.exit 0))) (.seq (.block 1 (.seq (.seq (.draw [(⟨some 18,.mov (.tmp 1),none⟩,false),(⟨some 19,.mov (.tmp 5),none⟩,false),(⟨some 20,.idxAddr 1 (.tmp 18) (.tmp 19),none⟩,false),(⟨some 21,.load (.tmp 20),none⟩,false),(⟨some 22,.fieldAddr 0 (.tmp 2),none⟩,false),(⟨some 23,.load (.tmp 22),none⟩,false),(⟨some 24,.idxAddr 1 (.tmp 23) (.const (.int .i64 0)),none⟩,false),(⟨some 25,.load (.tmp 24),none⟩,false),(⟨some 26,.len (.tmp 25),none⟩,false),(⟨some 27,.arith .sub (.tmp 26) (.const (.int .i64 1)),none⟩,false),(⟨some 28,.call (.func 5) [.tmp 21,.const (.int .i64 0),.tmp 27],none⟩,false),(⟨some 29,.not (.tmp 28),none⟩,false)]) (.cond (.tmp 29) (.seq (.ops [⟨some 4,.mov (.const (.int .i64 6)),none⟩]) .ret) .skip)) (.seq (.draw [(⟨some 30,.mov (.tmp 5),none⟩,false),(⟨some 31,.cmp .gtr (.tmp 30) (.const (.int .i64 0)),none⟩,false),(⟨some 32,.mov (.tmp 31),none⟩,false),(⟨some 33,.mov (.tmp 1),some (32,true)⟩,false),(⟨some 34,.mov (.tmp 5),some (32,true)⟩,false),(⟨some 35,.idxAddr 1 (.tmp 33) (.tmp 34),some (32,true)⟩,false),(⟨some 36,.load (.tmp 35),some (32,true)⟩,false),(⟨some 37,.mov (.tmp 1),some (32,true)⟩,false),(⟨some 38,.mov (.tmp 5),some (32,true)⟩,false),(⟨some 39,.arith .sub (.tmp 38) (.const (.int .i64 1)),some (32,true)⟩,false),(⟨some 40,.idxAddr 1 (.tmp 37) (.tmp 39),some (32,true)⟩,false),(⟨some 41,.load (.tmp 40),some (32,true)⟩,false),(⟨some 42,.arith .sub (.tmp 36) (.tmp 41),some (32,true)⟩,false),(⟨some 43,.call (.func 5) [(.tmp 42),(.const (.int .i64 (-1))),(.const (.int .i64 1))],some (32,true)⟩,false),(⟨some 44,.not (.tmp 43),some (32,true)⟩,false),(⟨some 45,.pick (.tmp 32) (.tmp 44) (.const (.bool false)),none⟩,false)]) (.cond (.tmp 45) (.seq (.ops [⟨some 4,.mov (.const (.int .i64 9)),none⟩]) .ret) .skip)))) (.ops [⟨some 16,.mov (.tmp 5),none⟩,⟨some 17,.arith .add (.tmp 16) (.const (.int .i64 1)),none⟩,⟨some 5,.mov (.tmp 17),none⟩])))))) (.seq (.ops [⟨some 4,.mov (.const (.int .i64 0)),none⟩]) .ret)))),46,[.tmp 4]⟩
theorem c13 : compileFn Go.Proofs.Tryz.prog Go.Proofs.Tryz.f13 = some R13 := by kernel_rfl
theorem n13 : R13.ntmps = 46 := rfl
theorem a13 {args : List Value} {H : AHeap} {Q : Value → AHeap → Prop} (h : AWP Go.Proofs.Tryz.prog none R13.code (Fin R13 Q) (args ++ List.replicate (R13.ntmps - args.length) undef) H) : ACall Go.Proofs.Tryz.prog 13 args H Q := acall_intro mo Go.Proofs.Tryz.func13 c13 h
def R14 : RFunc :=
  ⟨(.seq (.ops [⟨some 2,.box (.tmp 0),none⟩,⟨some 4,.mov (.const (.int .i64 0)),none⟩,⟨some 5,.mov (.const (.int .i64 0)),none⟩]) (.seq (.ops [⟨some 18,.loadN 2 (.tmp 2),none⟩,⟨some 19,.call (.func 36) [.tmp 18],none⟩,⟨some 17,.mov (.tmp 19),none⟩,⟨some 20,.extract (.tmp 17) 0,none⟩,⟨some 21,.extract (.tmp 17) 1,none⟩,⟨some 6,.new [.slice none 0 0,.int .i64 0],none⟩,⟨none,.store 2 (.tmp 6) (.tmp 20),none⟩,⟨some 7,.mov (.tmp 21),none⟩]) (.seq (.seq (.ops [⟨some 22,.mov (.tmp 7),none⟩,⟨some 23,.mov (.tmp 1),none⟩,⟨some 24,.len (.tmp 23),none⟩,⟨some 25,.fieldAddr 0 (.tmp 2),none⟩,⟨some 26,.load (.tmp 25),none⟩,⟨some 27,.len (.tmp 26),none⟩,⟨some 28,.cmp .eql (.tmp 24) (.tmp 27),none⟩,⟨some 29,.call (.func 32) [.tmp 28,.const (.int .i64 10)],none⟩,⟨some 30,.buildSlice 1 2 [.int .i64 0,.int .i64 0] [(0,(1,(.tmp 22))),(1,(1,(.tmp 29)))],none⟩,⟨some 31,.call (.func 30) [.tmp 30],none⟩,⟨some 7,.mov (.tmp 31),none⟩]) (.seq (.ops [⟨some 32,.mov (.tmp 7),none⟩,⟨some 33,.cmp .neq (.tmp 32) (.const (.int .i64 0)),none⟩]) (.cond (.tmp 33) (.seq (.ops [⟨some 34,.mov (.tmp 7),none⟩,⟨some 4,.mov (.const (.int .i64 0)),none⟩,⟨some 5,.mov (.tmp 34),none⟩]) .ret) .skip))) (.seq (.seq (.ops [⟨some 35,.mov (.tmp 1),none⟩,⟨some 36,.len (.tmp 35),none⟩,⟨some 37,.mov (.const (.int .i64 0)),none⟩]) (.block 0 (.loop (.seq (.ops [⟨some 38,.cmp .lss (.tmp 37) (.tmp 36),none⟩]) (.seq (.cond (.tmp 38) .skip (.exit 0)) (.seq (.block 1 (.seq (.ops [⟨some 39,.idxAddr 1 (.tmp 35) (.tmp 37),none⟩,⟨some 40,.load (.tmp 39),none⟩,⟨some 9,.mov (.tmp 40),none⟩]) (.seq (.ops [⟨some 41,.mov (.tmp 9),none⟩,⟨some 42,.call (.func 46) [(.tmp 41),(.func 47)],none⟩,⟨some 10,.mov (.tmp 42),none⟩]) (.seq (.ops [⟨some 43,.mov (.tmp 9),none⟩,⟨some 44,.len (.tmp 43),none⟩,⟨some 45,.loadN 2 (.tmp 6),none⟩,⟨some 46,.call (.func 44) [.tmp 45],none⟩,⟨some 47,.cmp .eql (.tmp 44) (.tmp 46),none⟩,⟨some 48,.call (.func 32) [.tmp 47,.const (.int .i64 10)],none⟩,⟨some 49,.mov (.tmp 10),none⟩,⟨some 50,.not (.tmp 49),none⟩,⟨some 51,.call (.func 32) [.tmp 50,.const (.int .i64 2)],none⟩,⟨some 52,.buildSlice 1 2 [.int .i64 0,.int .i64 0] [(0,(1,(.tmp 48))),(1,(1,(.tmp 51)))],none⟩,⟨some 53,.call (.func 30) [.tmp 52],none⟩,⟨some 11,.mov (.tmp 53),none⟩]) (.seq (.ops [⟨some 54,.mov (.tmp 11),none⟩,⟨some 55,.cmp .neq (.tmp 54) (.const (.int .i64 0)),none⟩]) (.cond (.tmp 55) (.seq (.ops [⟨some 56,.mov (.tmp 11),none⟩,⟨some 4,.mov (.const (.int .i64 0)),none⟩,⟨some 5,.mov (.tmp 56),none⟩]) .ret) .skip)))))) (.ops [⟨some 57,.arith .add (.tmp 37) (.const (.int .i64 1)),none⟩,⟨some 37,.mov (.tmp 57),none⟩]))))))) (.seq (.seq (.ops [⟨some 58,.mov (.tmp 1),none⟩,⟨some 59,.len (.tmp 58),none⟩,⟨some 60,.mov (.const (.int .i64 0)),none⟩]) (.block 2 (.loop (.seq (.ops [⟨some 61,.cmp .lss (.tmp 60) (.tmp 59),none⟩]) (.seq (.cond (.tmp 61) .skip (.exit 2)) (.seq (.block 3 (.seq (.ops [⟨some 62,.mov (.tmp 60),none⟩,⟨some 63,.idxAddr 1 (.tmp 58) (.tmp 60),none⟩,⟨some 64,.load (.tmp 63),none⟩,⟨some 12,.mov (.tmp 62),none⟩,⟨some 13,.mov (.tmp 64),none⟩]) (.seq (.ops [⟨some 65,.mov (.tmp 13),none⟩,⟨some 66,.len (.tmp 65),none⟩,⟨some 67,.mov (.const (.int .i64 0)),none⟩]) (.block 4 (.loop (.seq (.ops [⟨some 68,.cmp .lss (.tmp 67) (.tmp 66),none⟩]) (.seq (.cond (.tmp 68) .skip (.exit 4)) (.seq (.block 5 (.seq (.ops [⟨some 69,.mov (.tmp 67),none⟩,⟨some 70,.idxAddr 1 (.tmp 65) (.tmp 67),none⟩,⟨some 71,.load (.tmp 70),none⟩,⟨some 14,.mov (.tmp 69),none⟩,⟨some 15,.mov (.tmp 71),none⟩]) (.seq (.ops [⟨some 72,.fieldAddr 0 (.tmp 2),none⟩,⟨some 73,.load (.tmp 72),none⟩,⟨some 74,.idxAddr 1 (.tmp 73) (.const (.int .i64 0)),none⟩,⟨some 75,.load (.tmp 74),none⟩,⟨some 76,.mov (.tmp 14),none⟩,⟨some 77,.idxAddr 1 (.tmp 75) (.tmp 76),none⟩,⟨some 78,.load (.tmp 77),none⟩,⟨some 16,.mov (.tmp 78),none⟩]) (.seq (.seq (.ops [⟨some 79,.mov (.tmp 12),none⟩,⟨some 80,.cmp .gtr (.tmp 79) (.const (.int .i64 0)),none⟩]) (.cond (.tmp 80) (.draw [(⟨some 81,.loadN 2 (.tmp 6),none⟩,false),(⟨some 82,.mov (.tmp 12),none⟩,false),(⟨some 83,.mov (.tmp 14),none⟩,false),(⟨some 84,.mov (.tmp 1),none⟩,false),(⟨some 85,.mov (.tmp 12),none⟩,false),(⟨some 86,.arith .sub (.tmp 85) (.const (.int .i64 1)),none⟩,false),(⟨some 87,.idxAddr 1 (.tmp 84) (.tmp 86),none⟩,false),(⟨some 88,.load (.tmp 87),none⟩,false),(⟨some 89,.call (.func 45) [.tmp 81,.tmp 82,.tmp 83,.tmp 88],none⟩,false),(⟨some 16,.mov (.tmp 89),none⟩,false)]) .skip)) (.seq (.ops [⟨some 90,.mov (.tmp 15),none⟩,⟨some 91,.mov (.tmp 16),none⟩,⟨some 92,.cmp .gtr (.tmp 90) (.tmp 91),none⟩]) (.cond (.tmp 92) (.seq (.ops [⟨some 4,.mov (.const (.int .i64 0)),none⟩,⟨some 5,.mov (.const (.int .i64 19)),none⟩]) .ret) .skip)))))) (.ops [⟨some 93,.arith .add (.tmp 67) (.const (.int .i64 1)),none⟩,⟨some 67,.mov (.tmp 93),none⟩]))))))))) (.ops [⟨some 94,.arith .add (.tmp 60) (.const (.int .i64 1)),none⟩,⟨some 60,.mov (.tmp 94),none⟩]))))))) (.seq (.ops [⟨some 95,.mov (.tmp 1),none⟩,⟨some 96,.loadN 2 (.tmp 6),none⟩,⟨some 97,.call (.func 43) [.tmp 96],none⟩,⟨some 98,.idxAddr 1 (.tmp 95) (.tmp 97),none⟩,⟨some 99,.load (.tmp 98),none⟩,⟨some 100,.call (.func 39) [.tmp 99],none⟩,⟨some 4,.mov (.tmp 100),none⟩,⟨some 5,.mov (.const (.int .i64 0)),none⟩]) .ret)))))),101,[.tmp 4,.tmp 5]⟩
theorem c14 : compileFn Go.Proofs.Tryz.prog Go.Proofs.Tryz.f14 = some R14 := by kernel_rfl
theorem n14 : R14.ntmps = 101 := rfl
theorem a14 {args : List Value} {H : AHeap} {Q : Value → AHeap → Prop} (h : AWP Go.Proofs.Tryz.prog none R14.code (Fin R14 Q) (args ++ List.replicate (R14.ntmps - args.length) undef) H) : ACall Go.Proofs.Tryz.prog 14 args H Q := acall_intro mo Go.Proofs.Tryz.func14 c14 h
def R15 : RFunc :=
  ⟨(.seq (.ops [⟨some 2,.mov (.const (.slice none 0 0)),none⟩]) (.seq (.ops [⟨some 3,.mov (.const (.slice none 0 0)),none⟩]) (.seq (.seq (.ops [⟨some 4,.mov (.const (.int .i64 0)),none⟩]) (.block 0 (.loop (.seq (.seq (.ops [⟨some 5,.mov (.tmp 4),none⟩,⟨some 6,.mov (.tmp 0),none⟩,⟨some 7,.len (.tmp 6),none⟩,⟨some 8,.cmp .lss (.tmp 5) (.tmp 7),none⟩]) (.cond (.tmp 8) .skip (.exit 0))) (.seq (.block 1 (.ops [⟨some 11,.mov (.tmp 3),none⟩,⟨some 12,.mov (.tmp 0),none⟩,⟨some 13,.mov (.tmp 4),none⟩,⟨some 14,.idxAddr 1 (.tmp 12) (.tmp 13),none⟩,⟨some 15,.load (.tmp 14),none⟩,⟨some 16,.call (.func 17) [.tmp 15],none⟩,⟨some 17,.buildSlice 1 1 [.slice none 0 0] [(0,(1,(.tmp 16)))],none⟩,⟨some 18,.append 1 24 (.tmp 11) (.tmp 17),none⟩,⟨some 3,.mov (.tmp 18),none⟩])) (.ops [⟨some 9,.mov (.tmp 4),none⟩,⟨some 10,.arith .add (.tmp 9) (.const (.int .i64 1)),none⟩,⟨some 4,.mov (.tmp 10),none⟩])))))) (.seq (.ops [⟨some 19,.mov (.tmp 3),none⟩,⟨some 2,.mov (.tmp 19),none⟩]) .ret)))),20,[.tmp 2]⟩
theorem c15 : compileFn Go.Proofs.Tryz.prog Go.Proofs.Tryz.f15 = some R15 := by kernel_rfl
theorem n15 : R15.ntmps = 20 := rfl
theorem a15 {args : List Value} {H : AHeap} {Q : Value → AHeap → Prop} (h : AWP Go.Proofs.Tryz.prog none R15.code (Fin R15 Q) (args ++ List.replicate (R15.ntmps - args.length) undef) H) : ACall Go.Proofs.Tryz.prog 15 args H Q := acall_intro mo Go.Proofs.Tryz.func15 c15 h
def R16 : RFunc :=
  ⟨(.seq (.ops [⟨some 3,.box (.tmp 0),none⟩,⟨some 6,.mov (.const (.slice none 0 0)),none⟩,⟨some 7,.mov (.const (.int .i64 0)),none⟩]) (.seq (.ops [⟨some 15,.loadN 2 (.tmp 3),none⟩,⟨some 16,.mov (.tmp 1),none⟩,⟨some 17,.call (.func 49) [.tmp 15,.tmp 16],none⟩,⟨some 14,.mov (.tmp 17),none⟩,⟨some 18,.extract (.tmp 14) 0,none⟩,⟨some 19,.extract (.tmp 14) 1,none⟩,⟨some 8,.new [.slice none 0 0,.int .i64 0],none⟩,⟨none,.store 2 (.tmp 8) (.tmp 18),none⟩,⟨some 9,.mov (.tmp 19),none⟩]) (.seq (.seq (.ops [⟨some 20,.mov (.tmp 9),none⟩,⟨some 21,.mov (.tmp 2),none⟩,⟨some 22,.call (.func 29) [.tmp 21,.const (.int .i64 0),.const (.int .i64 255)],none⟩,⟨some 23,.call (.func 32) [.tmp 22,.const (.int .i64 2)],none⟩,⟨some 24,.buildSlice 1 2 [.int .i64 0,.int .i64 0] [(0,(1,(.tmp 20))),(1,(1,(.tmp 23)))],none⟩,⟨some 25,.call (.func 30) [.tmp 24],none⟩,⟨some 9,.mov (.tmp 25),none⟩]) (.seq (.ops [⟨some 26,.mov (.tmp 9),none⟩,⟨some 27,.cmp .neq (.tmp 26) (.const (.int .i64 0)),none⟩]) (.cond (.tmp 27) (.seq (.ops [⟨some 28,.mov (.tmp 9),none⟩,⟨some 6,.mov (.const (.slice none 0 0)),none⟩,⟨some 7,.mov (.tmp 28),none⟩]) .ret) .skip))) (.seq (.ops [⟨some 10,.mov (.const (.slice none 0 0)),none⟩]) (.seq (.seq (.ops [⟨some 29,.mov (.tmp 1),none⟩,⟨some 30,.len (.tmp 29),none⟩,⟨some 31,.mov (.const (.int .i64 0)),none⟩]) (.block 0 (.loop (.seq (.ops [⟨some 32,.cmp .lss (.tmp 31) (.tmp 30),none⟩]) (.seq (.cond (.tmp 32) .skip (.exit 0)) (.seq (.block 1 (.seq (.ops [⟨some 33,.mov (.tmp 31),none⟩,⟨some 34,.idxAddr 1 (.tmp 29) (.tmp 31),none⟩,⟨some 35,.load (.tmp 34),none⟩,⟨some 11,.mov (.tmp 33),none⟩,⟨some 12,.mov (.tmp 35),none⟩]) (.seq (.seq (.ops [⟨some 36,.fieldAddr 0 (.tmp 8),none⟩,⟨some 37,.fieldAddr 0 (.tmp 36),none⟩,⟨some 38,.load (.tmp 37),none⟩,⟨some 39,.mov (.tmp 11),none⟩,⟨some 40,.idxAddr 1 (.tmp 38) (.tmp 39),none⟩,⟨some 41,.load (.tmp 40),none⟩,⟨some 42,.mov (.tmp 12),none⟩,⟨some 43,.idxAddr 1 (.tmp 41) (.tmp 42),none⟩,⟨some 44,.load (.tmp 43),none⟩,⟨some 45,.mov (.tmp 2),none⟩,⟨some 46,.cmp .leq (.tmp 44) (.tmp 45),none⟩]) (.cond (.tmp 46) (.exit 1) .skip)) (.seq (.seq (.ops [⟨some 47,.mov (.tmp 10),none⟩,⟨some 48,.len (.tmp 47),none⟩,⟨some 13,.mov (.tmp 48),none⟩]) (.seq (.ops [⟨some 49,.mov (.tmp 13),none⟩,⟨some 50,.cmp .gtr (.tmp 49) (.const (.int .i64 0)),none⟩,⟨some 51,.mov (.tmp 50),none⟩,⟨some 52,.mov (.tmp 10),some (51,true)⟩,⟨some 53,.mov (.tmp 13),some (51,true)⟩,⟨some 54,.arith .sub (.tmp 53) (.const (.int .i64 1)),some (51,true)⟩,⟨some 55,.idxAddr 2 (.tmp 52) (.tmp 54),some (51,true)⟩,⟨some 56,.fieldAddr 1 (.tmp 55),some (51,true)⟩,⟨some 57,.load (.tmp 56),some (51,true)⟩,⟨some 58,.mov (.tmp 11),some (51,true)⟩,⟨some 59,.arith .sub (.tmp 58) (.const (.int .i64 1)),some (51,true)⟩,⟨some 60,.cmp .eql (.tmp 57) (.tmp 59),some (51,true)⟩,⟨some 61,.pick (.tmp 51) (.tmp 60) (.const (.bool false)),none⟩]) (.cond (.tmp 61) (.seq (.ops [⟨some 62,.mov (.tmp 10),none⟩,⟨some 63,.mov (.tmp 13),none⟩,⟨some 64,.arith .sub (.tmp 63) (.const (.int .i64 1)),none⟩,⟨some 65,.mov (.tmp 11),none⟩,⟨some 66,.idxAddr 2 (.tmp 62) (.tmp 64),none⟩,⟨some 67,.fieldAddr 1 (.tmp 66),none⟩,⟨none,.store 1 (.tmp 67) (.tmp 65),none⟩]) (.exit 1)) .skip))) (.ops [⟨some 68,.mov (.tmp 10),none⟩,⟨some 69,.mov (.tmp 11),none⟩,⟨some 70,.mov (.tmp 11),none⟩,⟨some 71,.build [.int .i64 0,.int .i64 0] [(0,(1,(.tmp 69))),(1,(1,(.tmp 70)))],none⟩,⟨some 72,.buildSlice 2 1 [.int .i64 0,.int .i64 0] [(0,(2,(.tmp 71)))],none⟩,⟨some 73,.append 2 16 (.tmp 68) (.tmp 72),none⟩,⟨some 10,.mov (.tmp 73),none⟩]))))) (.ops [⟨some 74,.arith .add (.tmp 31) (.const (.int .i64 1)),none⟩,⟨some 31,.mov (.tmp 74),none⟩]))))))) (.seq (.ops [⟨some 75,.mov (.tmp 10),none⟩,⟨some 6,.mov (.tmp 75),none⟩,⟨some 7,.mov (.const (.int .i64 0)),none⟩]) .ret)))))),76,[.tmp 6,.tmp 7]⟩
theorem c16 : compileFn Go.Proofs.Tryz.prog Go.Proofs.Tryz.f16 = some R16 := by kernel_rfl
theorem n16 : R16.ntmps = 76 := rfl
theorem a16 {args : List Value} {H : AHeap} {Q : Value → AHeap → Prop} (h : AWP Go.Proofs.Tryz.prog none R16.code (Fin R16 Q) (args ++ List.replicate (R16.ntmps - args.length) undef) H) : ACall Go.Proofs.Tryz.prog 16 args H Q := acall_intro mo Go.Proofs.Tryz.func16 c16 h
def R17 : RFunc :=
  ⟨(.seq (.ops [⟨some 2,.mov (.const (.slice none 0 0)),none⟩]) (.seq (.ops [⟨some 3,.buildSlice 1 0 [] [],none⟩,⟨some 4,.mov (.tmp 0),none⟩,⟨some 5,.append 1 8 (.tmp 3) (.tmp 4),none⟩,⟨some 2,.mov (.tmp 5),none⟩]) .ret)),6,[.tmp 2]⟩
theorem c17 : compileFn Go.Proofs.Tryz.prog Go.Proofs.Tryz.f17 = some R17 := by kernel_rfl
theorem n17 : R17.ntmps = 6 := rfl
theorem a17 {args : List Value} {H : AHeap} {Q : Value → AHeap → Prop} (h : AWP Go.Proofs.Tryz.prog none R17.code (Fin R17 Q) (args ++ List.replicate (R17.ntmps - args.length) undef) H) : ACall Go.Proofs.Tryz.prog 17 args H Q := acall_intro mo Go.Proofs.Tryz.func17 c17 h
def R18 : RFunc :=
  ⟨(.seq (.ops [⟨some 4,.mov (.const (.bool false)),none⟩]) (.seq (.seq (.ops [⟨some 6,.mov (.tmp 0),none⟩,⟨some 7,.len (.tmp 6),none⟩,⟨some 8,.mov (.tmp 1),none⟩,⟨some 9,.len (.tmp 8),none⟩,⟨some 10,.cmp .neq (.tmp 7) (.tmp 9),none⟩]) (.cond (.tmp 10) (.seq (.ops [⟨some 4,.mov (.const (.bool false)),none⟩]) .ret) .skip)) (.seq (.seq (.ops [⟨some 5,.mov (.const (.int .i64 0)),none⟩]) (.block 0 (.loop (.seq (.seq (.ops [⟨some 11,.mov (.tmp 5),none⟩,⟨some 12,.mov (.tmp 0),none⟩,⟨some 13,.len (.tmp 12),none⟩,⟨some 14,.cmp .lss (.tmp 11) (.tmp 13),none⟩]) (.cond (.tmp 14) .skip (.exit 0))) (.seq (.block 1 (.seq (.draw [(⟨some 17,.mov (.tmp 0),none⟩,false),(⟨some 18,.mov (.tmp 5),none⟩,false),(⟨some 19,.idxAddr 2 (.tmp 17) (.tmp 18),none⟩,false),(⟨some 20,.loadN 2 (.tmp 19),none⟩,false),(⟨some 21,.mov (.tmp 1),none⟩,false),(⟨some 22,.mov (.tmp 5),none⟩,false),(⟨some 23,.idxAddr 2 (.tmp 21) (.tmp 22),none⟩,false),(⟨some 24,.loadN 2 (.tmp 23),none⟩,false),(⟨some 25,.eqAgg true [(0,false),(1,false)] (.tmp 20) (.tmp 24),none⟩,false)]) (.cond (.tmp 25) (.seq (.ops [⟨some 4,.mov (.const (.bool false)),none⟩]) .ret) .skip))) (.ops [⟨some 15,.mov (.tmp 5),none⟩,⟨some 16,.arith .add (.tmp 15) (.const (.int .i64 1)),none⟩,⟨some 5,.mov (.tmp 16),none⟩])))))) (.seq (.ops [⟨some 4,.mov (.const (.bool true)),none⟩]) .ret)))),26,[.tmp 4]⟩
theorem c18 : compileFn Go.Proofs.Tryz.prog Go.Proofs.Tryz.f18 = some R18 := by kernel_rfl
theorem n18 : R18.ntmps = 26 := rfl
theorem a18 {args : List Value} {H : AHeap} {Q : Value → AHeap → Prop} (h : AWP Go.Proofs.Tryz.prog none R18.code (Fin R18 Q) (args ++ List.replicate (R18.ntmps - args.length) undef) H) : ACall Go.Proofs.Tryz.prog 18 args H Q := acall_intro mo Go.Proofs.Tryz.func18 c18 h
def R19 : RFunc :=
  ⟨(.seq (.ops [⟨some 4,.mov (.const (.slice none 0 0)),none⟩,⟨some 5,.mov (.const (.int .i64 0)),none⟩]) (.seq (.seq (.ops [⟨some 15,.mov (.tmp 0),none⟩,⟨some 16,.call (.func 50) [.tmp 15],none⟩,⟨some 17,.mov (.tmp 0),none⟩,⟨some 18,.len (.tmp 17),none⟩,⟨some 19,.mov (.tmp 1),none⟩,⟨some 20,.call (.func 51) [.tmp 18,.tmp 19],none⟩,⟨some 21,.buildSlice 1 2 [.int .i64 0,.int .i64 0] [(0,(1,(.tmp 16))),(1,(1,(.tmp 20)))],none⟩,⟨some 22,.call (.func 30) [.tmp 21],none⟩,⟨some 6,.mov (.tmp 22),none⟩]) (.seq (.ops [⟨some 23,.mov (.tmp 6),none⟩,⟨some 24,.cmp .neq (.tmp 23) (.const (.int .i64 0)),none⟩]) (.cond (.tmp 24) (.seq (.ops [⟨some 25,.mov (.tmp 6),none⟩,⟨some 4,.mov (.const (.slice none 0 0)),none⟩,⟨some 5,.mov (.tmp 25),none⟩]) .ret) .skip))) (.seq (.ops [⟨some 26,.mov (.tmp 0),none⟩,⟨some 27,.call (.func 42) [.tmp 26],none⟩,⟨some 7,.mov (.tmp 27),none⟩]) (.seq (.seq (.ops [⟨some 28,.mov (.tmp 1),none⟩,⟨some 29,.len (.tmp 28),none⟩,⟨some 30,.mov (.const (.int .i64 0)),none⟩]) (.block 0 (.loop (.seq (.ops [⟨some 31,.cmp .lss (.tmp 30) (.tmp 29),none⟩]) (.seq (.cond (.tmp 31) .skip (.exit 0)) (.seq (.block 1 (.seq (.ops [⟨some 32,.idxAddr 2 (.tmp 28) (.tmp 30),none⟩,⟨some 33,.loadN 2 (.tmp 32),none⟩,⟨some 9,.new [.int .i64 0,.int .i64 0],none⟩,⟨none,.store 2 (.tmp 9) (.tmp 33),none⟩]) (.seq (.draw [(⟨some 34,.fieldAddr 0 (.tmp 9),none⟩,false),(⟨some 35,.load (.tmp 34),none⟩,false),(⟨some 36,.arith .sub (.tmp 35) (.const (.int .i64 1)),none⟩,false),(⟨some 37,.fieldAddr 1 (.tmp 9),none⟩,false),(⟨some 38,.load (.tmp 37),none⟩,false),(⟨some 39,.arith .add (.tmp 38) (.const (.int .i64 1)),none⟩,false),(⟨some 10,.mov (.tmp 36),none⟩,false),(⟨some 11,.mov (.tmp 39),none⟩,false)]) (.seq (.ops [⟨some 40,.fieldAddr 0 (.tmp 9),none⟩,⟨some 41,.load (.tmp 40),none⟩,⟨some 12,.mov (.tmp 41),none⟩]) (.block 2 (.loop (.seq (.seq (.ops [⟨some 42,.mov (.tmp 12),none⟩,⟨some 43,.fieldAddr 1 (.tmp 9),none⟩,⟨some 44,.load (.tmp 43),none⟩,⟨some 45,.cmp .leq (.tmp 42) (.tmp 44),none⟩]) (.cond (.tmp 45) .skip (.exit 2))) (.seq (.block 3 (.block 4 (.seq (.ops [⟨some 73,.mov (.tmp 10),none⟩,⟨some 74,.cmp .lss (.tmp 73) (.const (.int .i64 0)),none⟩,⟨some 72,.mov (.tmp 74),none⟩]) (.cond (.tmp 72) (.ops [⟨some 75,.mov (.tmp 7),none⟩,⟨some 76,.mov (.tmp 12),none⟩,⟨some 77,.mov (.tmp 0),none⟩,⟨some 78,.mov (.tmp 11),none⟩,⟨some 79,.idxAddr 1 (.tmp 77) (.tmp 78),none⟩,⟨some 80,.load (.tmp 79),none⟩,⟨some 81,.idxAddr 1 (.tmp 75) (.tmp 76),none⟩,⟨none,.store 1 (.tmp 81) (.tmp 80),none⟩]) (.seq (.ops [⟨some 83,.mov (.tmp 11),none⟩,⟨some 84,.mov (.tmp 0),none⟩,⟨some 85,.len (.tmp 84),none⟩,⟨some 86,.cmp .eql (.tmp 83) (.tmp 85),none⟩,⟨some 82,.mov (.tmp 86),none⟩]) (.cond (.tmp 82) (.ops [⟨some 87,.mov (.tmp 7),none⟩,⟨some 88,.mov (.tmp 12),none⟩,⟨some 89,.mov (.tmp 0),none⟩,⟨some 90,.mov (.tmp 10),none⟩,⟨some 91,.idxAddr 1 (.tmp 89) (.tmp 90),none⟩,⟨some 92,.load (.tmp 91),none⟩,⟨some 93,.idxAddr 1 (.tmp 87) (.tmp 88),none⟩,⟨none,.store 1 (.tmp 93) (.tmp 92),none⟩]) (.seq (.draw [(⟨some 48,.mov (.tmp 0),none⟩,false),(⟨some 49,.mov (.tmp 10),none⟩,false),(⟨some 50,.idxAddr 1 (.tmp 48) (.tmp 49),none⟩,false),(⟨some 51,.load (.tmp 50),none⟩,false),(⟨some 52,.mov (.tmp 0),none⟩,false),(⟨some 53,.mov (.tmp 11),none⟩,false),(⟨some 54,.idxAddr 1 (.tmp 52) (.tmp 53),none⟩,false),(⟨some 55,.load (.tmp 54),none⟩,false),(⟨some 13,.mov (.tmp 51),none⟩,false),(⟨some 14,.mov (.tmp 55),none⟩,false)]) (.ops [⟨some 56,.mov (.tmp 7),none⟩,⟨some 57,.mov (.tmp 12),none⟩,⟨some 58,.mov (.tmp 13),none⟩,⟨some 59,.mov (.tmp 14),none⟩,⟨some 60,.mov (.tmp 13),none⟩,⟨some 61,.arith .sub (.tmp 59) (.tmp 60),none⟩,⟨some 62,.mov (.tmp 12),none⟩,⟨some 63,.mov (.tmp 10),none⟩,⟨some 64,.arith .sub (.tmp 62) (.tmp 63),none⟩,⟨some 65,.arith .mul (.tmp 61) (.tmp 64),none⟩,⟨some 66,.mov (.tmp 11),none⟩,⟨some 67,.mov (.tmp 10),none⟩,⟨some 68,.arith .sub (.tmp 66) (.tmp 67),none⟩,⟨some 69,.call (.func 52) [.tmp 65,.tmp 68],none⟩,⟨some 70,.arith .add (.tmp 58) (.tmp 69),none⟩,⟨some 71,.idxAddr 1 (.tmp 56) (.tmp 57),none⟩,⟨none,.store 1 (.tmp 71) (.tmp 70),none⟩])))))))) (.ops [⟨some 46,.mov (.tmp 12),none⟩,⟨some 47,.arith .add (.tmp 46) (.const (.int .i64 1)),none⟩,⟨some 12,.mov (.tmp 47),none⟩]))))))))) (.ops [⟨some 94,.arith .add (.tmp 30) (.const (.int .i64 1)),none⟩,⟨some 30,.mov (.tmp 94),none⟩]))))))) (.seq (.ops [⟨some 95,.mov (.tmp 7),none⟩,⟨some 4,.mov (.tmp 95),none⟩,⟨some 5,.mov (.const (.int .i64 0)),none⟩]) .ret))))),96,[.tmp 4,.tmp 5]⟩
theorem c19 : compileFn Go.Proofs.Tryz.prog Go.Proofs.Tryz.f19 = some R19 := by kernel_rfl
theorem n19 : R19.ntmps = 96 := rfl
theorem a19 {args : List Value} {H : AHeap} {Q : Value → AHeap → Prop} (h : AWP Go.Proofs.Tryz.prog none R19.code (Fin R19 Q) (args ++ List.replicate (R19.ntmps - args.length) undef) H) : ACall Go.Proofs.Tryz.prog 19 args H Q := acall_intro mo Go.Proofs.Tryz.func19 c19 h
def R20 : RFunc :=
  ⟨(.seq (.ops [⟨some 2,.mov (.const (.int .i64 0)),none⟩]) (.seq (.seq (.ops [⟨some 4,.mov (.tmp 0),none⟩,⟨some 5,.len (.tmp 4),none⟩,⟨some 6,.cmp .gtr (.tmp 5) (.const (.int .i64 200)),none⟩]) (.cond (.tmp 6) (.seq (.ops [⟨some 2,.mov (.const (.int .i64 8)),none⟩]) .ret) .skip)) (.seq (.seq (.ops [⟨some 3,.mov (.const (.int .i64 0)),none⟩]) (.block 0 (.loop (.seq (.seq (.ops [⟨some 7,.mov (.tmp 3),none⟩,⟨some 8,.mov (.tmp 0),none⟩,⟨some 9,.len (.tmp 8),none⟩,⟨some 10,.cmp .lss (.tmp 7) (.tmp 9),none⟩]) (.cond (.tmp 10) .skip (.exit 0))) (.seq (.block 1 (.seq (.ops [⟨some 13,.mov (.tmp 0),none⟩,⟨some 14,.mov (.tmp 3),none⟩,⟨some 15,.idxAddr 1 (.tmp 13) (.tmp 14),none⟩,⟨some 16,.load (.tmp 15),none⟩,⟨some 17,.call (.func 5) [(.tmp 16),(.const (.int .i64 (-1000000))),(.const (.int .i64 1000000))],none⟩,⟨some 18,.not (.tmp 17),none⟩]) (.cond (.tmp 18) (.seq (.ops [⟨some 2,.mov (.const (.int .i64 2)),none⟩]) .ret) .skip))) (.ops [⟨some 11,.mov (.tmp 3),none⟩,⟨some 12,.arith .add (.tmp 11) (.const (.int .i64 1)),none⟩,⟨some 3,.mov (.tmp 12),none⟩])))))) (.seq (.ops [⟨some 2,.mov (.const (.int .i64 0)),none⟩]) .ret)))),19,[.tmp 2]⟩
theorem c20 : compileFn Go.Proofs.Tryz.prog Go.Proofs.Tryz.f20 = some R20 := by kernel_rfl
theorem n20 : R20.ntmps = 19 := rfl
theorem a20 {args : List Value} {H : AHeap} {Q : Value → AHeap → Prop} (h : AWP Go.Proofs.Tryz.prog none R20.code (Fin R20 Q) (args ++ List.replicate (R20.ntmps - args.length) undef) H) : ACall Go.Proofs.Tryz.prog 20 args H Q := acall_intro mo Go.Proofs.Tryz.func20 c20 h
def R21 : RFunc :=
  ⟨(.seq (.ops [⟨some 2,.mov (.const (.slice none 0 0)),none⟩,⟨some 3,.mov (.const (.int .i64 0)),none⟩]) (.seq (.seq (.ops [⟨some 8,.mov (.tmp 0),none⟩,⟨some 9,.call (.func 50) [.tmp 8],none⟩,⟨some 10,.mov (.tmp 0),none⟩,⟨some 11,.len (.tmp 10),none⟩,⟨some 12,.cmp .gtr (.tmp 11) (.const (.int .i64 0)),none⟩,⟨some 13,.call (.func 32) [.tmp 12,.const (.int .i64 10)],none⟩,⟨some 14,.buildSlice 1 2 [.int .i64 0,.int .i64 0] [(0,(1,(.tmp 9))),(1,(1,(.tmp 13)))],none⟩,⟨some 15,.call (.func 30) [.tmp 14],none⟩,⟨some 4,.mov (.tmp 15),none⟩]) (.seq (.ops [⟨some 16,.mov (.tmp 4),none⟩,⟨some 17,.cmp .neq (.tmp 16) (.const (.int .i64 0)),none⟩]) (.cond (.tmp 17) (.seq (.ops [⟨some 18,.mov (.tmp 4),none⟩,⟨some 2,.mov (.const (.slice none 0 0)),none⟩,⟨some 3,.mov (.tmp 18),none⟩]) .ret) .skip))) (.seq (.ops [⟨some 5,.mov (.const (.slice none 0 0)),none⟩]) (.seq (.seq (.ops [⟨some 19,.mov (.tmp 0),none⟩,⟨some 20,.slice 1 (.tmp 19) (some (.const (.int .i64 1))) none none,none⟩,⟨some 21,.len (.tmp 20),none⟩,⟨some 22,.mov (.const (.int .i64 0)),none⟩]) (.block 0 (.loop (.seq (.ops [⟨some 23,.cmp .lss (.tmp 22) (.tmp 21),none⟩]) (.seq (.cond (.tmp 23) .skip (.exit 0)) (.seq (.block 1 (.seq (.ops [⟨some 24,.mov (.tmp 22),none⟩,⟨some 25,.idxAddr 1 (.tmp 20) (.tmp 22),none⟩,⟨some 26,.load (.tmp 25),none⟩,⟨some 6,.mov (.tmp 24),none⟩,⟨some 7,.mov (.tmp 26),none⟩]) (.ops [⟨some 27,.mov (.tmp 5),none⟩,⟨some 28,.mov (.tmp 7),none⟩,⟨some 29,.mov (.tmp 0),none⟩,⟨some 30,.mov (.tmp 6),none⟩,⟨some 31,.idxAddr 1 (.tmp 29) (.tmp 30),none⟩,⟨some 32,.load (.tmp 31),none⟩,⟨some 33,.arith .sub (.tmp 28) (.tmp 32),none⟩,⟨some 34,.buildSlice 1 1 [.int .i64 0] [(0,(1,(.tmp 33)))],none⟩,⟨some 35,.append 1 8 (.tmp 27) (.tmp 34),none⟩,⟨some 5,.mov (.tmp 35),none⟩]))) (.ops [⟨some 36,.arith .add (.tmp 22) (.const (.int .i64 1)),none⟩,⟨some 22,.mov (.tmp 36),none⟩]))))))) (.seq (.ops [⟨some 37,.mov (.tmp 5),none⟩,⟨some 2,.mov (.tmp 37),none⟩,⟨some 3,.mov (.const (.int .i64 0)),none⟩]) .ret))))),38,[.tmp 2,.tmp 3]⟩
theorem c21 : compileFn Go.Proofs.Tryz.prog Go.Proofs.Tryz.f21 = some R21 := by kernel_rfl
theorem n21 : R21.ntmps = 38 := rfl
theorem a21 {args : List Value} {H : AHeap} {Q : Value → AHeap → Prop} (h : AWP Go.Proofs.Tryz.prog none R21.code (Fin R21 Q) (args ++ List.replicate (R21.ntmps - args.length) undef) H) : ACall Go.Proofs.Tryz.prog 21 args H Q := acall_intro mo Go.Proofs.Tryz.func21 c21 h
def R22 : RFunc :=
  ⟨(.seq (.ops [⟨some 4,.mov (.const (.slice none 0 0)),none⟩,⟨some 5,.mov (.const (.int .i64 0)),none⟩]) (.seq (.seq (.ops [⟨some 11,.mov (.tmp 0),none⟩,⟨some 12,.call (.func 48) [.tmp 11,.const (.int .i64 1000000)],none⟩,⟨some 13,.call (.func 32) [.tmp 12,.const (.int .i64 2)],none⟩,⟨some 14,.mov (.tmp 1),none⟩,⟨some 15,.len (.tmp 14),none⟩,⟨some 16,.cmp .lss (.tmp 15) (.const (.int .i64 200)),none⟩,⟨some 17,.call (.func 32) [.tmp 16,.const (.int .i64 8)],none⟩,⟨some 18,.buildSlice 1 2 [.int .i64 0,.int .i64 0] [(0,(1,(.tmp 13))),(1,(1,(.tmp 17)))],none⟩,⟨some 19,.call (.func 30) [.tmp 18],none⟩,⟨some 6,.mov (.tmp 19),none⟩]) (.seq (.ops [⟨some 20,.mov (.tmp 6),none⟩,⟨some 21,.cmp .neq (.tmp 20) (.const (.int .i64 0)),none⟩]) (.cond (.tmp 21) (.seq (.ops [⟨some 22,.mov (.tmp 6),none⟩,⟨some 4,.mov (.const (.slice none 0 0)),none⟩,⟨some 5,.mov (.tmp 22),none⟩]) .ret) .skip))) (.seq (.ops [⟨some 23,.mov (.tmp 0),none⟩,⟨some 24,.buildSlice 1 1 [.int .i64 0] [(0,(1,(.tmp 23)))],none⟩,⟨some 7,.mov (.tmp 24),none⟩]) (.seq (.seq (.ops [⟨some 25,.mov (.tmp 1),none⟩,⟨some 26,.len (.tmp 25),none⟩,⟨some 27,.mov (.const (.int .i64 0)),none⟩]) (.block 0 (.loop (.seq (.ops [⟨some 28,.cmp .lss (.tmp 27) (.tmp 26),none⟩]) (.seq (.cond (.tmp 28) .skip (.exit 0)) (.seq (.block 1 (.seq (.ops [⟨some 29,.mov (.tmp 27),none⟩,⟨some 30,.idxAddr 1 (.tmp 25) (.tmp 27),none⟩,⟨some 31,.load (.tmp 30),none⟩,⟨some 8,.mov (.tmp 29),none⟩,⟨some 9,.mov (.tmp 31),none⟩]) (.seq (.seq (.ops [⟨some 32,.mov (.tmp 9),none⟩,⟨some 33,.call (.func 48) [.tmp 32,.const (.int .i64 2000000)],none⟩,⟨some 34,.not (.tmp 33),none⟩]) (.cond (.tmp 34) (.seq (.ops [⟨some 4,.mov (.const (.slice none 0 0)),none⟩,⟨some 5,.mov (.const (.int .i64 2)),none⟩]) .ret) .skip)) (.seq (.ops [⟨some 35,.mov (.tmp 7),none⟩,⟨some 36,.mov (.tmp 8),none⟩,⟨some 37,.idxAddr 1 (.tmp 35) (.tmp 36),none⟩,⟨some 38,.load (.tmp 37),none⟩,⟨some 39,.mov (.tmp 9),none⟩,⟨some 40,.arith .add (.tmp 38) (.tmp 39),none⟩,⟨some 10,.mov (.tmp 40),none⟩]) (.seq (.seq (.ops [⟨some 41,.mov (.tmp 10),none⟩,⟨some 42,.call (.func 48) [.tmp 41,.const (.int .i64 1000000)],none⟩,⟨some 43,.not (.tmp 42),none⟩]) (.cond (.tmp 43) (.seq (.ops [⟨some 4,.mov (.const (.slice none 0 0)),none⟩,⟨some 5,.mov (.const (.int .i64 23)),none⟩]) .ret) .skip)) (.ops [⟨some 44,.mov (.tmp 7),none⟩,⟨some 45,.mov (.tmp 10),none⟩,⟨some 46,.buildSlice 1 1 [.int .i64 0] [(0,(1,(.tmp 45)))],none⟩,⟨some 47,.append 1 8 (.tmp 44) (.tmp 46),none⟩,⟨some 7,.mov (.tmp 47),none⟩])))))) (.ops [⟨some 48,.arith .add (.tmp 27) (.const (.int .i64 1)),none⟩,⟨some 27,.mov (.tmp 48),none⟩]))))))) (.seq (.ops [⟨some 49,.mov (.tmp 7),none⟩,⟨some 4,.mov (.tmp 49),none⟩,⟨some 5,.mov (.const (.int .i64 0)),none⟩]) .ret))))),50,[.tmp 4,.tmp 5]⟩
theorem c22 : compileFn Go.Proofs.Tryz.prog Go.Proofs.Tryz.f22 = some R22 := by kernel_rfl
theorem n22 : R22.ntmps = 50 := rfl
theorem a22 {args : List Value} {H : AHeap} {Q : Value → AHeap → Prop} (h : AWP Go.Proofs.Tryz.prog none R22.code (Fin R22 Q) (args ++ List.replicate (R22.ntmps - args.length) undef) H) : ACall Go.Proofs.Tryz.prog 22 args H Q := acall_intro mo Go.Proofs.Tryz.func22 c22 h
def R23 : RFunc :=
  ⟨(.seq (.ops [⟨some 2,.new [.slice none 0 0],none⟩,⟨some 3,.new [.int .i64 0],none⟩]) (.seq (.seq (.ops [⟨some 9,.mov (.tmp 0),none⟩,⟨some 10,.lenS (.tmp 9),none⟩,⟨some 11,.cmp .gtr (.tmp 10) (.const (.int .i64 60000)),none⟩]) (.cond (.tmp 11) (.seq (.ops [⟨none,.store 1 (.tmp 2) (.const (.slice none 0 0)),none⟩,⟨none,.store 1 (.tmp 3) (.const (.int .i64 8)),none⟩]) .ret) .skip)) (.seq (.seq (.ops [⟨some 12,.mov (.tmp 0),none⟩,⟨some 13,.strOp .eql (.tmp 12) (.const (.string ⟨#[]⟩)),none⟩]) (.cond (.tmp 13) (.seq (.ops [⟨none,.store 1 (.tmp 2) (.const (.slice none 0 0)),none⟩,⟨none,.store 1 (.tmp 3) (.const (.int .i64 0)),none⟩]) .ret) .skip)) (.seq (.ops [⟨some 4,.new [.slice none 0 0],none⟩]) (.seq (.seq (.ops [⟨some 14,.mov (.tmp 0),none⟩,⟨some 15,.call (.func 53) [(.tmp 14),(.const (.string ⟨#[32]⟩))],none⟩]) (.block 0 (.rangeFunc (.tmp 15) [16] (.ops [⟨some 5,.mov (.tmp 16),none⟩]) (.block 1 (.seq (.ops [⟨some 18,.mov (.tmp 5),none⟩,⟨some 19,.call (.func 54) [.tmp 18],none⟩,⟨some 17,.mov (.tmp 19),none⟩,⟨some 20,.extract (.tmp 17) 0,none⟩,⟨some 21,.extract (.tmp 17) 1,none⟩,⟨some 6,.mov (.tmp 20),none⟩,⟨some 7,.mov (.tmp 21),none⟩]) (.seq (.seq (.ops [⟨some 22,.mov (.tmp 7),none⟩,⟨some 23,.eqv 4 true (.tmp 22) (.const .nilIface),none⟩,⟨some 24,.mov (.tmp 23),none⟩,⟨some 25,.mov (.tmp 6),some (24,false)⟩,⟨some 26,.call (.func 55) [.tmp 25],some (24,false)⟩,⟨some 27,.mov (.tmp 5),some (24,false)⟩,⟨some 28,.strOp .neq (.tmp 26) (.tmp 27),some (24,false)⟩,⟨some 29,.pick (.tmp 24) (.const (.bool true)) (.tmp 28),none⟩,⟨some 30,.mov (.tmp 29),none⟩,⟨some 31,.mov (.tmp 5),some (30,false)⟩,⟨some 32,.call (.func 56) [(.tmp 31),(.const (.string ⟨#[45]⟩))],some (30,false)⟩,⟨some 33,.lenS (.tmp 32),some (30,false)⟩,⟨some 34,.cmp .gtr (.tmp 33) (.const (.int .i64 7)),some (30,false)⟩,⟨some 35,.pick (.tmp 30) (.const (.bool true)) (.tmp 34),none⟩]) (.cond (.tmp 35) (.seq (.ops [⟨none,.store 1 (.tmp 2) (.const (.slice none 0 0)),none⟩,⟨none,.store 1 (.tmp 3) (.const (.int .i64 7)),none⟩]) .ret) .skip)) (.ops [⟨some 36,.load (.tmp 4),none⟩,⟨some 37,.mov (.tmp 6),none⟩,⟨some 38,.buildSlice 1 1 [.int .i64 0] [(0,(1,(.tmp 37)))],none⟩,⟨some 39,.append 1 8 (.tmp 36) (.tmp 38),none⟩,⟨none,.store 1 (.tmp 4) (.tmp 39),none⟩]))))))) (.seq (.seq (.ops [⟨some 40,.load (.tmp 4),none⟩,⟨some 41,.call (.func 50) [.tmp 40],none⟩,⟨some 8,.mov (.tmp 41),none⟩]) (.seq (.ops [⟨some 42,.mov (.tmp 8),none⟩,⟨some 43,.cmp .neq (.tmp 42) (.const (.int .i64 0)),none⟩]) (.cond (.tmp 43) (.seq (.ops [⟨some 44,.mov (.tmp 8),none⟩,⟨none,.store 1 (.tmp 2) (.const (.slice none 0 0)),none⟩,⟨none,.store 1 (.tmp 3) (.tmp 44),none⟩]) .ret) .skip))) (.seq (.ops [⟨some 45,.load (.tmp 4),none⟩,⟨none,.store 1 (.tmp 2) (.tmp 45),none⟩,⟨none,.store 1 (.tmp 3) (.const (.int .i64 0)),none⟩]) .ret))))))),46,[(.load 2),(.load 3)]⟩
theorem c23 : compileFn Go.Proofs.Tryz.prog Go.Proofs.Tryz.f23 = some R23 := by kernel_rfl
theorem n23 : R23.ntmps = 46 := rfl
theorem a23 {args : List Value} {H : AHeap} {Q : Value → AHeap → Prop} (h : AWP Go.Proofs.Tryz.prog none R23.code (Fin R23 Q) (args ++ List.replicate (R23.ntmps - args.length) undef) H) : ACall Go.Proofs.Tryz.prog 23 args H Q := acall_intro mo Go.Proofs.Tryz.func23 c23 h
def R24 : RFunc :=
  ⟨(.seq (.ops [⟨some 2,.mov (.const (.string ⟨#[]⟩)),none⟩]) (.seq (.ops [⟨some 3,.mov (.const (.slice none 0 0)),none⟩]) (.seq (.seq (.ops [⟨some 6,.mov (.tmp 0),none⟩,⟨some 7,.len (.tmp 6),none⟩,⟨some 8,.mov (.const (.int .i64 0)),none⟩]) (.block 0 (.loop (.seq (.ops [⟨some 9,.cmp .lss (.tmp 8) (.tmp 7),none⟩]) (.seq (.cond (.tmp 9) .skip (.exit 0)) (.seq (.block 1 (.seq (.ops [⟨some 10,.idxAddr 1 (.tmp 6) (.tmp 8),none⟩,⟨some 11,.load (.tmp 10),none⟩,⟨some 5,.mov (.tmp 11),none⟩]) (.ops [⟨some 12,.mov (.tmp 3),none⟩,⟨some 13,.mov (.tmp 5),none⟩,⟨some 14,.call (.func 55) [.tmp 13],none⟩,⟨some 15,.buildSlice 1 1 [(.string ⟨#[]⟩)] [(0,(1,(.tmp 14)))],none⟩,⟨some 16,.append 1 16 (.tmp 12) (.tmp 15),none⟩,⟨some 3,.mov (.tmp 16),none⟩]))) (.ops [⟨some 17,.arith .add (.tmp 8) (.const (.int .i64 1)),none⟩,⟨some 8,.mov (.tmp 17),none⟩]))))))) (.seq (.ops [⟨some 18,.mov (.tmp 3),none⟩,⟨some 19,.call (.func 57) [(.tmp 18),(.const (.string ⟨#[32]⟩))],none⟩,⟨some 2,.mov (.tmp 19),none⟩]) .ret)))),20,[.tmp 2]⟩
theorem c24 : compileFn Go.Proofs.Tryz.prog Go.Proofs.Tryz.f24 = some R24 := by kernel_rfl
theorem n24 : R24.ntmps = 20 := rfl
theorem a24 {args : List Value} {H : AHeap} {Q : Value → AHeap → Prop} (h : AWP Go.Proofs.Tryz.prog none R24.code (Fin R24 Q) (args ++ List.replicate (R24.ntmps - args.length) undef) H) : ACall Go.Proofs.Tryz.prog 24 args H Q := acall_intro mo Go.Proofs.Tryz.func24 c24 h
def R25 : RFunc :=
  ⟨(.seq (.ops [⟨some 4,.mov (.const (.bool false)),none⟩]) (.seq (.seq (.ops [⟨some 6,.mov (.tmp 0),none⟩,⟨some 7,.len (.tmp 6),none⟩,⟨some 8,.mov (.tmp 1),none⟩,⟨some 9,.len (.tmp 8),none⟩,⟨some 10,.cmp .neq (.tmp 7) (.tmp 9),none⟩]) (.cond (.tmp 10) (.seq (.ops [⟨some 4,.mov (.const (.bool false)),none⟩]) .ret) .skip)) (.seq (.seq (.ops [⟨some 5,.mov (.const (.int .i64 0)),none⟩]) (.block 0 (.loop (.seq (.seq (.ops [⟨some 11,.mov (.tmp 5),none⟩,⟨some 12,.mov (.tmp 0),none⟩,⟨some 13,.len (.tmp 12),none⟩,⟨some 14,.cmp .lss (.tmp 11) (.tmp 13),none⟩]) (.cond (.tmp 14) .skip (.exit 0))) (.seq (.block 1 (.seq (.draw [(⟨some 17,.mov (.tmp 0),none⟩,false),(⟨some 18,.mov (.tmp 5),none⟩,false),(⟨some 19,.idxAddr 1 (.tmp 17) (.tmp 18),none⟩,false),(⟨some 20,.load (.tmp 19),none⟩,false),(⟨some 21,.mov (.tmp 1),none⟩,false),(⟨some 22,.mov (.tmp 5),none⟩,false),(⟨some 23,.idxAddr 1 (.tmp 21) (.tmp 22),none⟩,false),(⟨some 24,.load (.tmp 23),none⟩,false),(⟨some 25,.cmp .neq (.tmp 20) (.tmp 24),none⟩,false)]) (.cond (.tmp 25) (.seq (.ops [⟨some 4,.mov (.const (.bool false)),none⟩]) .ret) .skip))) (.ops [⟨some 15,.mov (.tmp 5),none⟩,⟨some 16,.arith .add (.tmp 15) (.const (.int .i64 1)),none⟩,⟨some 5,.mov (.tmp 16),none⟩])))))) (.seq (.ops [⟨some 4,.mov (.const (.bool true)),none⟩]) .ret)))),26,[.tmp 4]⟩
theorem c25 : compileFn Go.Proofs.Tryz.prog Go.Proofs.Tryz.f25 = some R25 := by kernel_rfl
theorem n25 : R25.ntmps = 26 := rfl
theorem a25 {args : List Value} {H : AHeap} {Q : Value → AHeap → Prop} (h : AWP Go.Proofs.Tryz.prog none R25.code (Fin R25 Q) (args ++ List.replicate (R25.ntmps - args.length) undef) H) : ACall Go.Proofs.Tryz.prog 25 args H Q := acall_intro mo Go.Proofs.Tryz.func25 c25 h
def R26 : RFunc :=
  ⟨(.seq (.ops [⟨some 0,.new [.slice none 0 0,.int .i64 0],none⟩]) (.seq (.ops [⟨some 1,.buildSlice 1 3 [.int .i64 0,.int .i64 0,.int .i64 0] [(0,(1,(.const (.int .i64 5)))),(1,(1,(.const (.int .i64 1)))),(2,(1,(.const (.int .i64 9))))],none⟩,⟨some 2,.buildSlice 1 3 [.int .i64 0,.int .i64 0,.int .i64 0] [(0,(1,(.const (.int .i64 4)))),(1,(1,(.const (.int .i64 4)))),(2,(1,(.const (.int .i64 0))))],none⟩,⟨some 3,.buildSlice 1 3 [.int .i64 0,.int .i64 0,.int .i64 0] [(0,(1,(.const (.int .i64 7)))),(1,(1,(.const (.int .i64 2)))),(2,(1,(.const (.int .i64 3))))],none⟩,⟨some 4,.buildSlice 1 3 [.slice none 0 0,.slice none 0 0,.slice none 0 0] [(0,(1,(.tmp 1))),(1,(1,(.tmp 2))),(2,(1,(.tmp 3)))],none⟩,⟨some 5,.build [.slice none 0 0,.int .i64 0] [(0,(1,(.tmp 4))),(1,(1,(.const (.int .i64 1))))],none⟩,⟨none,.store 2 (.tmp 0) (.tmp 5),none⟩]) .ret)),6,[(.loadN 2 0)]⟩
theorem c26 : compileFn Go.Proofs.Tryz.prog Go.Proofs.Tryz.f26 = some R26 := by kernel_rfl
def R27 : RFunc :=
  ⟨(.seq (.ops [⟨some 2,.mov (.const (.slice none 0 0)),none⟩,⟨some 3,.mov (.const (.int .i64 0)),none⟩]) (.seq (.ops [⟨some 4,.mov (.tmp 0),none⟩,⟨some 5,.call (.func 58) [(.tmp 4),(.func 59)],none⟩,⟨some 6,.extract (.tmp 5) 0,none⟩,⟨some 7,.extract (.tmp 5) 1,none⟩,⟨some 2,.mov (.tmp 6),none⟩,⟨some 3,.mov (.tmp 7),none⟩]) .ret)),8,[.tmp 2,.tmp 3]⟩
theorem c27 : compileFn Go.Proofs.Tryz.prog Go.Proofs.Tryz.f27 = some R27 := by kernel_rfl
def R28 : RFunc :=
  ⟨(.seq (.ops [⟨some 2,.mov (.const (.bool false)),none⟩]) (.seq (.ops [⟨some 3,.mov (.tmp 0),none⟩,⟨some 4,.call (.func 29) [.tmp 3,.const (.int .i64 1),.const (.int .i64 24)],none⟩,⟨some 2,.mov (.tmp 4),none⟩]) .ret)),5,[.tmp 2]⟩
theorem c28 : compileFn Go.Proofs.Tryz.prog Go.Proofs.Tryz.f28 = some R28 := by kernel_rfl
theorem n28 : R28.ntmps = 5 := rfl
theorem a28 {args : List Value} {H : AHeap} {Q : Value → AHeap → Prop} (h : AWP Go.Proofs.Tryz.prog none R28.code (Fin R28 Q) (args ++ List.replicate (R28.ntmps - args.length) undef) H) : ACall Go.Proofs.Tryz.prog 28 args H Q := acall_intro mo Go.Proofs.Tryz.func28 c28 h
def R29 : RFunc :=
  ⟨(.seq (.ops [⟨some 6,.mov (.const (.bool false)),none⟩]) (.seq (.ops [⟨some 7,.mov (.tmp 1),none⟩,⟨some 8,.mov (.tmp 0),none⟩,⟨some 9,.cmp .leq (.tmp 7) (.tmp 8),none⟩,⟨some 10,.mov (.tmp 9),none⟩,⟨some 11,.mov (.tmp 0),some (10,true)⟩,⟨some 12,.mov (.tmp 2),some (10,true)⟩,⟨some 13,.cmp .leq (.tmp 11) (.tmp 12),some (10,true)⟩,⟨some 14,.pick (.tmp 10) (.tmp 13) (.const (.bool false)),none⟩,⟨some 6,.mov (.tmp 14),none⟩]) .ret)),15,[.tmp 6]⟩
theorem c29 : compileFn Go.Proofs.Tryz.prog Go.Proofs.Tryz.f29 = some R29 := by kernel_rfl
theorem n29 : R29.ntmps = 15 := rfl
theorem a29 {args : List Value} {H : AHeap} {Q : Value → AHeap → Prop} (h : AWP Go.Proofs.Tryz.prog none R29.code (Fin R29 Q) (args ++ List.replicate (R29.ntmps - args.length) undef) H) : ACall Go.Proofs.Tryz.prog 29 args H Q := acall_intro mo Go.Proofs.Tryz.func29 c29 h
def R30 : RFunc :=
  ⟨(.seq (.ops [⟨some 2,.mov (.const (.int .i64 0)),none⟩]) (.seq (.seq (.ops [⟨some 5,.mov (.tmp 0),none⟩,⟨some 6,.len (.tmp 5),none⟩,⟨some 7,.mov (.const (.int .i64 0)),none⟩]) (.block 0 (.loop (.seq (.ops [⟨some 8,.cmp .lss (.tmp 7) (.tmp 6),none⟩]) (.seq (.cond (.tmp 8) .skip (.exit 0)) (.seq (.block 1 (.seq (.ops [⟨some 9,.idxAddr 1 (.tmp 5) (.tmp 7),none⟩,⟨some 10,.load (.tmp 9),none⟩,⟨some 4,.mov (.tmp 10),none⟩]) (.seq (.ops [⟨some 11,.mov (.tmp 4),none⟩,⟨some 12,.cmp .neq (.tmp 11) (.const (.int .i64 0)),none⟩]) (.cond (.tmp 12) (.seq (.ops [⟨some 13,.mov (.tmp 4),none⟩,⟨some 2,.mov (.tmp 13),none⟩]) .ret) .skip)))) (.ops [⟨some 14,.arith .add (.tmp 7) (.const (.int .i64 1)),none⟩,⟨some 7,.mov (.tmp 14),none⟩]))))))) (.seq (.ops [⟨some 2,.mov (.const (.int .i64 0)),none⟩]) .ret))),15,[.tmp 2]⟩
theorem c30 : compileFn Go.Proofs.Tryz.prog Go.Proofs.Tryz.f30 = some R30 := by kernel_rfl
theorem n30 : R30.ntmps = 15 := rfl
theorem a30 {args : List Value} {H : AHeap} {Q : Value → AHeap → Prop} (h : AWP Go.Proofs.Tryz.prog none R30.code (Fin R30 Q) (args ++ List.replicate (R30.ntmps - args.length) undef) H) : ACall Go.Proofs.Tryz.prog 30 args H Q := acall_intro mo Go.Proofs.Tryz.func30 c30 h
def R31 : RFunc :=
  ⟨(.seq (.ops [⟨some 1,.box (.tmp 0),none⟩,⟨some 2,.mov (.const (.int .i64 0)),none⟩]) (.seq (.ops [⟨some 3,.fieldAddr 0 (.tmp 1),none⟩,⟨some 4,.load (.tmp 3),none⟩,⟨some 5,.call (.func 60) [.tmp 4,.const (.int .i64 24),.const (.int .i64 24),.const (.int .i64 255)],none⟩,⟨some 2,.mov (.tmp 5),none⟩]) .ret)),6,[.tmp 2]⟩
theorem c31 : compileFn Go.Proofs.Tryz.prog Go.Proofs.Tryz.f31 = some R31 := by kernel_rfl
theorem n31 : R31.ntmps = 6 := rfl
theorem a31 {args : List Value} {H : AHeap} {Q : Value → AHeap → Prop} (h : AWP Go.Proofs.Tryz.prog none R31.code (Fin R31 Q) (args ++ List.replicate (R31.ntmps - args.length) undef) H) : ACall Go.Proofs.Tryz.prog 31 args H Q := acall_intro mo Go.Proofs.Tryz.func31 c31 h
def R32 : RFunc :=
  ⟨(.seq (.ops [⟨some 4,.mov (.const (.int .i64 0)),none⟩]) (.seq (.seq (.ops [⟨some 5,.mov (.tmp 0),none⟩]) (.cond (.tmp 5) (.seq (.ops [⟨some 4,.mov (.const (.int .i64 0)),none⟩]) .ret) .skip)) (.seq (.ops [⟨some 6,.mov (.tmp 1),none⟩,⟨some 4,.mov (.tmp 6),none⟩]) .ret))),7,[.tmp 4]⟩
theorem c32 : compileFn Go.Proofs.Tryz.prog Go.Proofs.Tryz.f32 = some R32 := by kernel_rfl
theorem n32 : R32.ntmps = 7 := rfl
theorem a32 {args : List Value} {H : AHeap} {Q : Value → AHeap → Prop} (h : AWP Go.Proofs.Tryz.prog none R32.code (Fin R32 Q) (args ++ List.replicate (R32.ntmps - args.length) undef) H) : ACall Go.Proofs.Tryz.prog 32 args H Q := acall_intro mo Go.Proofs.Tryz.func32 c32 h
def R33 : RFunc :=
  ⟨(.seq (.ops [⟨some 3,.box (.tmp 0),none⟩,⟨some 4,.box (.tmp 1),none⟩,⟨some 5,.box (.tmp 2),none⟩,⟨some 6,.mov (.const (.int .i64 0)),none⟩]) (.seq (.ops [⟨some 8,.mkFunc (.func 61) [] [.tmp 5],none⟩,⟨some 7,.mov (.tmp 8),none⟩]) (.seq (.draw [(⟨some 9,.mov (.tmp 7),none⟩,false),(⟨some 10,.fieldAddr 0 (.tmp 4),none⟩,false),(⟨some 11,.load (.tmp 10),none⟩,false),(⟨some 12,.fieldAddr 0 (.tmp 3),none⟩,false),(⟨some 13,.load (.tmp 12),none⟩,false),(⟨some 14,.idxAddr 1 (.tmp 13) (.const (.int .i64 0)),none⟩,false),(⟨some 15,.load (.tmp 14),none⟩,false),(⟨some 16,.len (.tmp 15),none⟩,false),(⟨some 17,.call (.tmp 9) [.tmp 11,.tmp 16],none⟩,false),(⟨some 18,.mov (.tmp 17),none⟩,false),(⟨some 19,.mov (.tmp 7),some (18,true)⟩,false),(⟨some 20,.fieldAddr 1 (.tmp 4),some (18,true)⟩,false),(⟨some 21,.load (.tmp 20),some (18,true)⟩,false),(⟨some 22,.fieldAddr 0 (.tmp 3),some (18,true)⟩,false),(⟨some 23,.load (.tmp 22),some (18,true)⟩,false),(⟨some 24,.len (.tmp 23),some (18,true)⟩,false),(⟨some 25,.call (.tmp 19) [.tmp 21,.tmp 24],some (18,true)⟩,true),(⟨some 26,.pick (.tmp 18) (.tmp 25) (.const (.bool false)),none⟩,false),(⟨some 27,.call (.func 32) [.tmp 26,.const (.int .i64 23)],none⟩,false),(⟨some 6,.mov (.tmp 27),none⟩,false)]) .ret))),28,[.tmp 6]⟩
theorem c33 : compileFn Go.Proofs.Tryz.prog Go.Proofs.Tryz.f33 = some R33 := by kernel_rfl
theorem n33 : R33.ntmps = 28 := rfl
theorem a33 {args : List Value} {H : AHeap} {Q : Value → AHeap → Prop} (h : AWP Go.Proofs.Tryz.prog none R33.code (Fin R33 Q) (args ++ List.replicate (R33.ntmps - args.length) undef) H) : ACall Go.Proofs.Tryz.prog 33 args H Q := acall_intro mo Go.Proofs.Tryz.func33 c33 h
def R34 : RFunc :=
  ⟨(.seq (.ops [⟨some 3,.box (.tmp 0),none⟩,⟨some 4,.box (.tmp 1),none⟩,⟨some 6,.mov (.const (.slice none 0 0)),none⟩]) (.seq (.ops [⟨some 7,.new [.slice none 0 0],none⟩]) (.seq (.seq (.ops [⟨some 9,.loadN 2 (.tmp 4),none⟩,⟨some 10,.mov (.tmp 2),none⟩,⟨some 11,.call (.func 62) [.tmp 9,.tmp 10],none⟩]) (.block 0 (.rangeFunc (.tmp 11) [12] (.ops [⟨some 8,.new [.int .i64 0,.int .i64 0],none⟩,⟨none,.store 2 (.tmp 8) (.tmp 12),none⟩]) (.block 1 (.draw [(⟨some 13,.load (.tmp 7),none⟩,false),(⟨some 14,.fieldAddr 0 (.tmp 3),none⟩,false),(⟨some 15,.load (.tmp 14),none⟩,false),(⟨some 16,.fieldAddr 1 (.tmp 8),none⟩,false),(⟨some 17,.load (.tmp 16),none⟩,false),(⟨some 18,.idxAddr 1 (.tmp 15) (.tmp 17),none⟩,false),(⟨some 19,.load (.tmp 18),none⟩,false),(⟨some 20,.fieldAddr 0 (.tmp 8),none⟩,false),(⟨some 21,.load (.tmp 20),none⟩,false),(⟨some 22,.idxAddr 1 (.tmp 19) (.tmp 21),none⟩,false),(⟨some 23,.load (.tmp 22),none⟩,false),(⟨some 24,.buildSlice 1 1 [.int .i64 0] [(0,(1,(.tmp 23)))],none⟩,false),(⟨some 25,.append 1 8 (.tmp 13) (.tmp 24),none⟩,false),(⟨none,.store 1 (.tmp 7) (.tmp 25),none⟩,false)]))))) (.seq (.ops [⟨some 26,.load (.tmp 7),none⟩,⟨some 6,.mov (.tmp 26),none⟩]) .ret)))),27,[.tmp 6]⟩
theorem c34 : compileFn Go.Proofs.Tryz.prog Go.Proofs.Tryz.f34 = some R34 := by kernel_rfl
theorem n34 : R34.ntmps = 27 := rfl
theorem a34 {args : List Value} {H : AHeap} {Q : Value → AHeap → Prop} (h : AWP Go.Proofs.Tryz.prog none R34.code (Fin R34 Q) (args ++ List.replicate (R34.ntmps - args.length) undef) H) : ACall Go.Proofs.Tryz.prog 34 args H Q := acall_intro mo Go.Proofs.Tryz.func34 c34 h
def R35 : RFunc :=
  ⟨(.seq (.ops [⟨some 2,.mov (.const (.int .i64 0)),none⟩]) (.seq (.ops [⟨some 3,.mov (.tmp 0),none⟩,⟨some 4,.call (.func 63) [.tmp 3,.const (.int .i64 40),.const (.int .i64 12)],none⟩,⟨some 2,.mov (.tmp 4),none⟩]) .ret)),5,[.tmp 2]⟩
theorem c35 : compileFn Go.Proofs.Tryz.prog Go.Proofs.Tryz.f35 = some R35 := by kernel_rfl
theorem n35 : R35.ntmps = 5 := rfl
theorem a35 {args : List Value} {H : AHeap} {Q : Value → AHeap → Prop} (h : AWP Go.Proofs.Tryz.prog none R35.code (Fin R35 Q) (args ++ List.replicate (R35.ntmps - args.length) undef) H) : ACall Go.Proofs.Tryz.prog 35 args H Q := acall_intro mo Go.Proofs.Tryz.func35 c35 h
def R36 : RFunc :=
  ⟨(.seq (.ops [⟨some 1,.box (.tmp 0),none⟩,⟨some 2,.new [.slice none 0 0,.int .i64 0],none⟩,⟨some 3,.mov (.const (.int .i64 0)),none⟩]) (.seq (.draw [(⟨some 4,.loadN 2 (.tmp 1),none⟩,false),(⟨some 5,.build [.slice none 0 0,.int .i64 0] [(0,(2,(.tmp 4)))],none⟩,false),(⟨some 6,.fieldAddr 0 (.tmp 1),none⟩,false),(⟨some 7,.load (.tmp 6),none⟩,false),(⟨some 8,.call (.func 64) [.tmp 7],none⟩,false),(⟨some 9,.fieldAddr 1 (.tmp 1),none⟩,false),(⟨some 10,.load (.tmp 9),none⟩,false),(⟨some 11,.call (.func 29) [.tmp 10,.const (.int .i64 0),.const (.int .i64 1000)],none⟩,false),(⟨some 12,.call (.func 32) [.tmp 11,.const (.int .i64 2)],none⟩,false),(⟨some 13,.buildSlice 1 2 [.int .i64 0,.int .i64 0] [(0,(1,(.tmp 8))),(1,(1,(.tmp 12)))],none⟩,false),(⟨some 14,.call (.func 30) [.tmp 13],none⟩,false),(⟨none,.store 2 (.tmp 2) (.tmp 5),none⟩,false),(⟨some 3,.mov (.tmp 14),none⟩,false)]) .ret)),15,[(.loadN 2 2),(.tmp 3)]⟩
theorem c36 : compileFn Go.Proofs.Tryz.prog Go.Proofs.Tryz.f36 = some R36 := by kernel_rfl
theorem n36 : R36.ntmps = 15 := rfl
theorem a36 {args : List Value} {H : AHeap} {Q : Value → AHeap → Prop} (h : AWP Go.Proofs.Tryz.prog none R36.code (Fin R36 Q) (args ++ List.replicate (R36.ntmps - args.length) undef) H) : ACall Go.Proofs.Tryz.prog 36 args H Q := acall_intro mo Go.Proofs.Tryz.func36 c36 h
def R37 : RFunc :=
  ⟨(.seq (.ops [⟨some 2,.box (.tmp 0),none⟩,⟨some 3,.box (.tmp 1),none⟩,⟨some 4,.mov (.const (.slice none 0 0)),none⟩]) (.seq (.ops [⟨some 11,.fieldAddr 0 (.tmp 2),none⟩,⟨some 12,.fieldAddr 0 (.tmp 11),none⟩,⟨some 13,.load (.tmp 12),none⟩,⟨some 14,.len (.tmp 13),none⟩,⟨some 15,.mkSlice 24 [.slice none 0 0] (.tmp 14) (.tmp 14),none⟩,⟨some 5,.new [.slice none 0 0],none⟩,⟨none,.store 1 (.tmp 5) (.tmp 15),none⟩]) (.seq (.seq (.ops [⟨some 16,.fieldAddr 0 (.tmp 2),none⟩,⟨some 17,.fieldAddr 0 (.tmp 16),none⟩,⟨some 18,.load (.tmp 17),none⟩,⟨some 19,.call (.func 65) [.tmp 18],none⟩]) (.block 0 (.rangeFunc (.tmp 19) [20,21] (.seq (.ops [⟨some 6,.new [.int .i64 0],none⟩,⟨none,.store 1 (.tmp 6) (.tmp 20),none⟩]) (.ops [⟨some 7,.mov (.tmp 21),none⟩])) (.block 1 (.seq (.draw [(⟨some 22,.load (.tmp 5),none⟩,false),(⟨some 23,.load (.tmp 6),none⟩,false),(⟨some 24,.buildSlice 1 1 [.int .i64 0] [(0,(1,(.const (.int .i64 1000000))))],none⟩,false),(⟨some 25,.loadN 2 (.tmp 2),none⟩,false),(⟨some 26,.call (.func 44) [.tmp 25],none⟩,true),(⟨some 27,.call (.func 66) [.tmp 24,.tmp 26],none⟩,false),(⟨some 28,.idxAddr 1 (.tmp 22) (.tmp 23),none⟩,false),(⟨none,.store 1 (.tmp 28) (.tmp 27),none⟩,false)]) (.seq (.ops [⟨some 29,.mov (.tmp 7),none⟩,⟨some 30,.len (.tmp 29),none⟩,⟨some 31,.mov (.const (.int .i64 0)),none⟩]) (.block 2 (.loop (.seq (.ops [⟨some 32,.cmp .lss (.tmp 31) (.tmp 30),none⟩]) (.seq (.cond (.tmp 32) .skip (.exit 2)) (.seq (.block 3 (.seq (.ops [⟨some 33,.mov (.tmp 31),none⟩,⟨some 34,.idxAddr 1 (.tmp 29) (.tmp 31),none⟩,⟨some 35,.load (.tmp 34),none⟩,⟨some 8,.new [.int .i64 0],none⟩,⟨some 9,.new [.int .i64 0],none⟩,⟨none,.store 1 (.tmp 8) (.tmp 33),none⟩,⟨none,.store 1 (.tmp 9) (.tmp 35),none⟩]) (.seq (.seq (.draw [(⟨some 36,.load (.tmp 6),none⟩,false),(⟨some 37,.loadN 2 (.tmp 2),none⟩,false),(⟨some 38,.call (.func 43) [.tmp 37],none⟩,false),(⟨some 39,.cmp .eql (.tmp 36) (.tmp 38),none⟩,false)]) (.cond (.tmp 39) (.seq (.seq (.ops [⟨some 40,.load (.tmp 3),none⟩,⟨some 41,.load (.tmp 8),none⟩,⟨some 42,.call (.tmp 40) [.tmp 41],none⟩]) (.cond (.tmp 42) (.draw [(⟨some 43,.load (.tmp 5),none⟩,false),(⟨some 44,.load (.tmp 6),none⟩,false),(⟨some 45,.idxAddr 1 (.tmp 43) (.tmp 44),none⟩,false),(⟨some 46,.load (.tmp 45),none⟩,false),(⟨some 47,.load (.tmp 8),none⟩,false),(⟨some 48,.load (.tmp 9),none⟩,false),(⟨some 49,.idxAddr 1 (.tmp 46) (.tmp 47),none⟩,false),(⟨none,.store 1 (.tmp 49) (.tmp 48),none⟩,false)]) .skip)) (.exit 3)) .skip)) (.seq (.ops [⟨some 50,.loadN 2 (.tmp 2),none⟩,⟨some 51,.load (.tmp 8),none⟩,⟨some 52,.call (.func 67) [.tmp 50,.tmp 51],none⟩]) (.block 4 (.rangeFunc (.tmp 52) [53] (.ops [⟨some 10,.mov (.tmp 53),none⟩]) (.block 5 (.draw [(⟨some 54,.load (.tmp 5),none⟩,false),(⟨some 55,.load (.tmp 6),none⟩,false),(⟨some 56,.idxAddr 1 (.tmp 54) (.tmp 55),none⟩,false),(⟨some 57,.load (.tmp 56),none⟩,false),(⟨some 58,.load (.tmp 8),none⟩,false),(⟨some 59,.load (.tmp 5),none⟩,false),(⟨some 60,.load (.tmp 6),none⟩,false),(⟨some 61,.idxAddr 1 (.tmp 59) (.tmp 60),none⟩,false),(⟨some 62,.load (.tmp 61),none⟩,false),(⟨some 63,.load (.tmp 8),none⟩,false),(⟨some 64,.idxAddr 1 (.tmp 62) (.tmp 63),none⟩,false),(⟨some 65,.load (.tmp 64),none⟩,false),(⟨some 66,.load (.tmp 9),none⟩,false),(⟨some 67,.loadN 2 (.tmp 2),none⟩,false),(⟨some 68,.load (.tmp 8),none⟩,false),(⟨some 69,.mov (.tmp 10),none⟩,false),(⟨some 70,.call (.func 68) [.tmp 67,.tmp 68,.tmp 69],none⟩,false),(⟨some 71,.arith .add (.tmp 66) (.tmp 70),none⟩,false),(⟨some 72,.load (.tmp 5),none⟩,false),(⟨some 73,.load (.tmp 6),none⟩,false),(⟨some 74,.arith .add (.tmp 73) (.const (.int .i64 1)),none⟩,false),(⟨some 75,.idxAddr 1 (.tmp 72) (.tmp 74),none⟩,false),(⟨some 76,.load (.tmp 75),none⟩,false),(⟨some 77,.mov (.tmp 10),none⟩,false),(⟨some 78,.idxAddr 1 (.tmp 76) (.tmp 77),none⟩,false),(⟨some 79,.load (.tmp 78),none⟩,false),(⟨some 80,.arith .add (.tmp 71) (.tmp 79),none⟩,false),(⟨some 81,.most false (.tmp 65) [.tmp 80],none⟩,false),(⟨some 82,.idxAddr 1 (.tmp 57) (.tmp 58),none⟩,false),(⟨none,.store 1 (.tmp 82) (.tmp 81),none⟩,false)])))))))) (.ops [⟨some 83,.arith .add (.tmp 31) (.const (.int .i64 1)),none⟩,⟨some 31,.mov (.tmp 83),none⟩])))))))))))) (.seq (.ops [⟨some 84,.load (.tmp 5),none⟩,⟨some 4,.mov (.tmp 84),none⟩]) .ret)))),85,[.tmp 4]⟩
theorem c37 : compileFn Go.Proofs.Tryz.prog Go.Proofs.Tryz.f37 = some R37 := by kernel_rfl
theorem n37 : R37.ntmps = 85 := rfl
theorem a37 {args : List Value} {H : AHeap} {Q : Value → AHeap → Prop} (h : AWP Go.Proofs.Tryz.prog none R37.code (Fin R37 Q) (args ++ List.replicate (R37.ntmps - args.length) undef) H) : ACall Go.Proofs.Tryz.prog 37 args H Q := acall_intro mo Go.Proofs.Tryz.func37 c37 h
def R38 : RFunc :=
  ⟨(.seq (.ops [⟨some 2,.mov (.const (.bool false)),none⟩]) (.seq (.ops [⟨some 2,.mov (.const (.bool true)),none⟩]) .ret)),3,[.tmp 2]⟩
theorem c38 : compileFn Go.Proofs.Tryz.prog Go.Proofs.Tryz.f38 = some R38 := by kernel_rfl
theorem n38 : R38.ntmps = 3 := rfl
theorem a38 {args : List Value} {H : AHeap} {Q : Value → AHeap → Prop} (h : AWP Go.Proofs.Tryz.prog none R38.code (Fin R38 Q) (args ++ List.replicate (R38.ntmps - args.length) undef) H) : ACall Go.Proofs.Tryz.prog 38 args H Q := acall_intro mo Go.Proofs.Tryz.func38 c38 h
def R39 : RFunc :=
  ⟨(.seq (.ops [⟨some 2,.mov (.const (.int .i64 0)),none⟩]) (.seq (.seq (.ops [⟨some 5,.mov (.tmp 0),none⟩,⟨some 6,.len (.tmp 5),none⟩,⟨some 7,.cmp .lss (.tmp 6) (.const (.int .i64 1)),none⟩]) (.cond (.tmp 7) (.ops [⟨some 8,.iface 9 (.const (.string ⟨#[115,108,105,99,101,115,46,77,105,110,58,32,101,109,112,116,121,32,108,105,115,116]⟩)),none⟩,⟨none,.extract (.const (.chan none)) 0,none⟩]) .skip)) (.seq (.ops [⟨some 9,.mov (.tmp 0),none⟩,⟨some 10,.idxAddr 1 (.tmp 9) (.const (.int .i64 0)),none⟩,⟨some 11,.load (.tmp 10),none⟩,⟨some 3,.mov (.tmp 11),none⟩]) (.seq (.seq (.ops [⟨some 4,.mov (.const (.int .i64 1)),none⟩]) (.block 0 (.loop (.seq (.seq (.ops [⟨some 12,.mov (.tmp 4),none⟩,⟨some 13,.mov (.tmp 0),none⟩,⟨some 14,.len (.tmp 13),none⟩,⟨some 15,.cmp .lss (.tmp 12) (.tmp 14),none⟩]) (.cond (.tmp 15) .skip (.exit 0))) (.seq (.block 1 (.ops [⟨some 18,.mov (.tmp 3),none⟩,⟨some 19,.mov (.tmp 0),none⟩,⟨some 20,.mov (.tmp 4),none⟩,⟨some 21,.idxAddr 1 (.tmp 19) (.tmp 20),none⟩,⟨some 22,.load (.tmp 21),none⟩,⟨some 23,.most false (.tmp 18) [.tmp 22],none⟩,⟨some 3,.mov (.tmp 23),none⟩])) (.ops [⟨some 16,.mov (.tmp 4),none⟩,⟨some 17,.arith .add (.tmp 16) (.const (.int .i64 1)),none⟩,⟨some 4,.mov (.tmp 17),none⟩])))))) (.seq (.ops [⟨some 24,.mov (.tmp 3),none⟩,⟨some 2,.mov (.tmp 24),none⟩]) .ret))))),25,[.tmp 2]⟩
theorem c39 : compileFn Go.Proofs.Tryz.prog Go.Proofs.Tryz.f39 = some R39 := by kernel_rfl
theorem n39 : R39.ntmps = 25 := rfl
theorem a39 {args : List Value} {H : AHeap} {Q : Value → AHeap → Prop} (h : AWP Go.Proofs.Tryz.prog none R39.code (Fin R39 Q) (args ++ List.replicate (R39.ntmps - args.length) undef) H) : ACall Go.Proofs.Tryz.prog 39 args H Q := acall_intro mo Go.Proofs.Tryz.func39 c39 h
def R40 : RFunc :=
  ⟨(.seq (.ops [⟨some 3,.box (.tmp 0),none⟩,⟨some 4,.box (.tmp 1),none⟩,⟨some 5,.box (.tmp 2),none⟩,⟨some 6,.mov (.const (.slice none 0 0)),none⟩]) (.seq (.ops [⟨some 10,.load (.tmp 5),none⟩,⟨some 11,.buildSlice 1 1 [.int .i64 0] [(0,(1,(.tmp 10)))],none⟩,⟨some 7,.new [.slice none 0 0],none⟩,⟨none,.store 1 (.tmp 7) (.tmp 11),none⟩]) (.seq (.seq (.ops [⟨some 12,.loadN 2 (.tmp 3),none⟩,⟨some 13,.call (.func 43) [.tmp 12],none⟩,⟨some 14,.mov (.const (.int .i64 0)),none⟩]) (.block 0 (.loop (.seq (.ops [⟨some 15,.cmp .lss (.tmp 14) (.tmp 13),none⟩]) (.seq (.cond (.tmp 15) .skip (.exit 0)) (.seq (.block 1 (.seq (.ops [⟨some 16,.mov (.tmp 14),none⟩,⟨some 8,.new [.int .i64 0],none⟩,⟨none,.store 1 (.tmp 8) (.tmp 16),none⟩]) (.seq (.ops [⟨some 17,.loadN 2 (.tmp 3),none⟩,⟨some 18,.load (.tmp 5),none⟩,⟨some 19,.call (.func 67) [.tmp 17,.tmp 18],none⟩]) (.block 2 (.rangeFunc (.tmp 19) [20] (.ops [⟨some 9,.mov (.tmp 20),none⟩]) (.block 3 (.seq (.draw [(⟨some 21,.fieldAddr 0 (.tmp 3),none⟩,false),(⟨some 22,.fieldAddr 0 (.tmp 21),none⟩,false),(⟨some 23,.load (.tmp 22),none⟩,false),(⟨some 24,.load (.tmp 8),none⟩,false),(⟨some 25,.idxAddr 1 (.tmp 23) (.tmp 24),none⟩,false),(⟨some 26,.load (.tmp 25),none⟩,false),(⟨some 27,.load (.tmp 5),none⟩,false),(⟨some 28,.idxAddr 1 (.tmp 26) (.tmp 27),none⟩,false),(⟨some 29,.load (.tmp 28),none⟩,false),(⟨some 30,.loadN 2 (.tmp 3),none⟩,false),(⟨some 31,.load (.tmp 5),none⟩,false),(⟨some 32,.mov (.tmp 9),none⟩,false),(⟨some 33,.call (.func 68) [.tmp 30,.tmp 31,.tmp 32],none⟩,false),(⟨some 34,.arith .add (.tmp 29) (.tmp 33),none⟩,false),(⟨some 35,.load (.tmp 4),none⟩,false),(⟨some 36,.load (.tmp 8),none⟩,false),(⟨some 37,.arith .add (.tmp 36) (.const (.int .i64 1)),none⟩,false),(⟨some 38,.idxAddr 1 (.tmp 35) (.tmp 37),none⟩,false),(⟨some 39,.load (.tmp 38),none⟩,false),(⟨some 40,.mov (.tmp 9),none⟩,false),(⟨some 41,.idxAddr 1 (.tmp 39) (.tmp 40),none⟩,false),(⟨some 42,.load (.tmp 41),none⟩,false),(⟨some 43,.arith .add (.tmp 34) (.tmp 42),none⟩,false),(⟨some 44,.load (.tmp 4),none⟩,false),(⟨some 45,.load (.tmp 8),none⟩,false),(⟨some 46,.idxAddr 1 (.tmp 44) (.tmp 45),none⟩,false),(⟨some 47,.load (.tmp 46),none⟩,false),(⟨some 48,.load (.tmp 5),none⟩,false),(⟨some 49,.idxAddr 1 (.tmp 47) (.tmp 48),none⟩,false),(⟨some 50,.load (.tmp 49),none⟩,false),(⟨some 51,.cmp .eql (.tmp 43) (.tmp 50),none⟩,false)]) (.cond (.tmp 51) (.seq (.ops [⟨some 52,.load (.tmp 7),none⟩,⟨some 53,.mov (.tmp 9),none⟩,⟨some 54,.buildSlice 1 1 [.int .i64 0] [(0,(1,(.tmp 53)))],none⟩,⟨some 55,.append 1 8 (.tmp 52) (.tmp 54),none⟩,⟨some 56,.mov (.tmp 9),none⟩,⟨none,.store 1 (.tmp 7) (.tmp 55),none⟩,⟨none,.store 1 (.tmp 5) (.tmp 56),none⟩]) (.exit 2)) .skip)))))))) (.ops [⟨some 57,.arith .add (.tmp 14) (.const (.int .i64 1)),none⟩,⟨some 14,.mov (.tmp 57),none⟩]))))))) (.seq (.ops [⟨some 58,.load (.tmp 7),none⟩,⟨some 6,.mov (.tmp 58),none⟩]) .ret)))),59,[.tmp 6]⟩
theorem c40 : compileFn Go.Proofs.Tryz.prog Go.Proofs.Tryz.f40 = some R40 := by kernel_rfl
theorem n40 : R40.ntmps = 59 := rfl
theorem a40 {args : List Value} {H : AHeap} {Q : Value → AHeap → Prop} (h : AWP Go.Proofs.Tryz.prog none R40.code (Fin R40 Q) (args ++ List.replicate (R40.ntmps - args.length) undef) H) : ACall Go.Proofs.Tryz.prog 40 args H Q := acall_intro mo Go.Proofs.Tryz.func40 c40 h
def R41 : RFunc :=
  ⟨(.seq (.ops [⟨some 4,.mov (.const (.int .i64 0)),none⟩]) (.seq (.seq (.ops [⟨some 6,.mov (.tmp 0),none⟩,⟨some 7,.len (.tmp 6),none⟩,⟨some 8,.mov (.const (.int .i64 0)),none⟩]) (.block 0 (.loop (.seq (.ops [⟨some 9,.cmp .lss (.tmp 8) (.tmp 7),none⟩]) (.seq (.cond (.tmp 9) .skip (.exit 0)) (.seq (.block 1 (.seq (.ops [⟨some 10,.mov (.tmp 8),none⟩,⟨some 5,.mov (.tmp 10),none⟩]) (.seq (.ops [⟨some 11,.mov (.tmp 1),none⟩,⟨some 12,.mov (.tmp 0),none⟩,⟨some 13,.mov (.tmp 5),none⟩,⟨some 14,.idxAddr 1 (.tmp 12) (.tmp 13),none⟩,⟨some 15,.load (.tmp 14),none⟩,⟨some 16,.cmp .eql (.tmp 11) (.tmp 15),none⟩]) (.cond (.tmp 16) (.seq (.ops [⟨some 17,.mov (.tmp 5),none⟩,⟨some 4,.mov (.tmp 17),none⟩]) .ret) .skip)))) (.ops [⟨some 18,.arith .add (.tmp 8) (.const (.int .i64 1)),none⟩,⟨some 8,.mov (.tmp 18),none⟩]))))))) (.seq (.ops [⟨some 4,.mov (.const (.int .i64 (-1))),none⟩]) .ret))),19,[.tmp 4]⟩
theorem c41 : compileFn Go.Proofs.Tryz.prog Go.Proofs.Tryz.f41 = some R41 := by kernel_rfl
theorem n41 : R41.ntmps = 19 := rfl
theorem a41 {args : List Value} {H : AHeap} {Q : Value → AHeap → Prop} (h : AWP Go.Proofs.Tryz.prog none R41.code (Fin R41 Q) (args ++ List.replicate (R41.ntmps - args.length) undef) H) : ACall Go.Proofs.Tryz.prog 41 args H Q := acall_intro mo Go.Proofs.Tryz.func41 c41 h
def R42 : RFunc :=
  ⟨(.seq (.ops [⟨some 2,.mov (.const (.slice none 0 0)),none⟩]) (.seq (.seq (.ops [⟨some 3,.mov (.tmp 0),none⟩,⟨some 4,.eqv 2 false (.tmp 3) (.const (.slice none 0 0)),none⟩]) (.cond (.tmp 4) (.seq (.ops [⟨some 2,.mov (.const (.slice none 0 0)),none⟩]) .ret) .skip)) (.seq (.ops [⟨some 5,.buildSlice 1 0 [] [],none⟩,⟨some 6,.mov (.tmp 0),none⟩,⟨some 7,.append 1 8 (.tmp 5) (.tmp 6),none⟩,⟨some 2,.mov (.tmp 7),none⟩]) .ret))),8,[.tmp 2]⟩
theorem c42 : compileFn Go.Proofs.Tryz.prog Go.Proofs.Tryz.f42 = some R42 := by kernel_rfl
theorem n42 : R42.ntmps = 8 := rfl
theorem a42 {args : List Value} {H : AHeap} {Q : Value → AHeap → Prop} (h : AWP Go.Proofs.Tryz.prog none R42.code (Fin R42 Q) (args ++ List.replicate (R42.ntmps - args.length) undef) H) : ACall Go.Proofs.Tryz.prog 42 args H Q := acall_intro mo Go.Proofs.Tryz.func42 c42 h
def R43 : RFunc :=
  ⟨(.seq (.ops [⟨some 1,.box (.tmp 0),none⟩,⟨some 2,.mov (.const (.int .i64 0)),none⟩]) (.seq (.ops [⟨some 3,.fieldAddr 0 (.tmp 1),none⟩,⟨some 4,.fieldAddr 0 (.tmp 3),none⟩,⟨some 5,.load (.tmp 4),none⟩,⟨some 6,.len (.tmp 5),none⟩,⟨some 7,.arith .sub (.tmp 6) (.const (.int .i64 1)),none⟩,⟨some 2,.mov (.tmp 7),none⟩]) .ret)),8,[.tmp 2]⟩
theorem c43 : compileFn Go.Proofs.Tryz.prog Go.Proofs.Tryz.f43 = some R43 := by kernel_rfl
theorem n43 : R43.ntmps = 8 := rfl
theorem a43 {args : List Value} {H : AHeap} {Q : Value → AHeap → Prop} (h : AWP Go.Proofs.Tryz.prog none R43.code (Fin R43 Q) (args ++ List.replicate (R43.ntmps - args.length) undef) H) : ACall Go.Proofs.Tryz.prog 43 args H Q := acall_intro mo Go.Proofs.Tryz.func43 c43 h
def R44 : RFunc :=
  ⟨(.seq (.ops [⟨some 1,.box (.tmp 0),none⟩,⟨some 2,.mov (.const (.int .i64 0)),none⟩]) (.seq (.ops [⟨some 3,.fieldAddr 0 (.tmp 1),none⟩,⟨some 4,.fieldAddr 0 (.tmp 3),none⟩,⟨some 5,.load (.tmp 4),none⟩,⟨some 6,.idxAddr 1 (.tmp 5) (.const (.int .i64 0)),none⟩,⟨some 7,.load (.tmp 6),none⟩,⟨some 8,.len (.tmp 7),none⟩,⟨some 2,.mov (.tmp 8),none⟩]) .ret)),9,[.tmp 2]⟩
theorem c44 : compileFn Go.Proofs.Tryz.prog Go.Proofs.Tryz.f44 = some R44 := by kernel_rfl
theorem n44 : R44.ntmps = 9 := rfl
theorem a44 {args : List Value} {H : AHeap} {Q : Value → AHeap → Prop} (h : AWP Go.Proofs.Tryz.prog none R44.code (Fin R44 Q) (args ++ List.replicate (R44.ntmps - args.length) undef) H) : ACall Go.Proofs.Tryz.prog 44 args H Q := acall_intro mo Go.Proofs.Tryz.func44 c44 h
def R45 : RFunc :=
  ⟨(.seq (.ops [⟨some 4,.box (.tmp 0),none⟩,⟨some 6,.box (.tmp 2),none⟩,⟨some 7,.box (.tmp 3),none⟩,⟨some 8,.mov (.const (.int .i64 0)),none⟩]) (.seq (.ops [⟨some 9,.new [.int .i64 0],none⟩,⟨none,.store 1 (.tmp 9) (.const (.int .i64 1000000)),none⟩]) (.seq (.seq (.ops [⟨some 11,.loadN 2 (.tmp 4),none⟩,⟨some 12,.load (.tmp 6),none⟩,⟨some 13,.call (.func 67) [.tmp 11,.tmp 12],none⟩]) (.block 0 (.rangeFunc (.tmp 13) [14] (.ops [⟨some 10,.mov (.tmp 14),none⟩]) (.block 1 (.draw [(⟨some 15,.load (.tmp 9),none⟩,false),(⟨some 16,.load (.tmp 7),none⟩,false),(⟨some 17,.mov (.tmp 10),none⟩,false),(⟨some 18,.idxAddr 1 (.tmp 16) (.tmp 17),none⟩,false),(⟨some 19,.load (.tmp 18),none⟩,false),(⟨some 20,.loadN 2 (.tmp 4),none⟩,false),(⟨some 21,.mov (.tmp 10),none⟩,false),(⟨some 22,.load (.tmp 6),none⟩,false),(⟨some 23,.call (.func 68) [.tmp 20,.tmp 21,.tmp 22],none⟩,false),(⟨some 24,.arith .add (.tmp 19) (.tmp 23),none⟩,false),(⟨some 25,.most false (.tmp 15) [.tmp 24],none⟩,false),(⟨none,.store 1 (.tmp 9) (.tmp 25),none⟩,false)]))))) (.seq (.draw [(⟨some 26,.fieldAddr 0 (.tmp 4),none⟩,false),(⟨some 27,.fieldAddr 0 (.tmp 26),none⟩,false),(⟨some 28,.load (.tmp 27),none⟩,false),(⟨some 29,.mov (.tmp 1),none⟩,false),(⟨some 30,.idxAddr 1 (.tmp 28) (.tmp 29),none⟩,false),(⟨some 31,.load (.tmp 30),none⟩,false),(⟨some 32,.load (.tmp 6),none⟩,false),(⟨some 33,.idxAddr 1 (.tmp 31) (.tmp 32),none⟩,false),(⟨some 34,.load (.tmp 33),none⟩,false),(⟨some 35,.load (.tmp 9),none⟩,false),(⟨some 36,.arith .add (.tmp 34) (.tmp 35),none⟩,false),(⟨some 8,.mov (.tmp 36),none⟩,false)]) .ret)))),37,[.tmp 8]⟩
theorem c45 : compileFn Go.Proofs.Tryz.prog Go.Proofs.Tryz.f45 = some R45 := by kernel_rfl
theorem n45 : R45.ntmps = 37 := rfl
theorem a45 {args : List Value} {H : AHeap} {Q : Value → AHeap → Prop} (h : AWP Go.Proofs.Tryz.prog none R45.code (Fin R45 Q) (args ++ List.replicate (R45.ntmps - args.length) undef) H) : ACall Go.Proofs.Tryz.prog 45 args H Q := acall_intro mo Go.Proofs.Tryz.func45 c45 h
def R46 : RFunc :=
  ⟨(.seq (.ops [⟨some 4,.mov (.const (.bool false)),none⟩]) (.seq (.ops [⟨some 5,.mov (.tmp 0),none⟩,⟨some 6,.mov (.tmp 1),none⟩,⟨some 7,.call (.func 69) [.tmp 5,.tmp 6],none⟩,⟨some 8,.cmp .geq (.tmp 7) (.const (.int .i64 0)),none⟩,⟨some 4,.mov (.tmp 8),none⟩]) .ret)),9,[.tmp 4]⟩
theorem c46 : compileFn Go.Proofs.Tryz.prog Go.Proofs.Tryz.f46 = some R46 := by kernel_rfl
theorem n46 : R46.ntmps = 9 := rfl
theorem a46 {args : List Value} {H : AHeap} {Q : Value → AHeap → Prop} (h : AWP Go.Proofs.Tryz.prog none R46.code (Fin R46 Q) (args ++ List.replicate (R46.ntmps - args.length) undef) H) : ACall Go.Proofs.Tryz.prog 46 args H Q := acall_intro mo Go.Proofs.Tryz.func46 c46 h
def R47 : RFunc :=
  ⟨(.seq (.ops [⟨some 2,.mov (.const (.bool false)),none⟩]) (.seq (.ops [⟨some 3,.mov (.tmp 0),none⟩,⟨some 4,.call (.func 48) [.tmp 3,.const (.int .i64 1000000)],none⟩,⟨some 5,.not (.tmp 4),none⟩,⟨some 2,.mov (.tmp 5),none⟩]) .ret)),6,[.tmp 2]⟩
theorem c47 : compileFn Go.Proofs.Tryz.prog Go.Proofs.Tryz.f47 = some R47 := by kernel_rfl
theorem n47 : R47.ntmps = 6 := rfl
theorem a47 {args : List Value} {H : AHeap} {Q : Value → AHeap → Prop} (h : AWP Go.Proofs.Tryz.prog none R47.code (Fin R47 Q) (args ++ List.replicate (R47.ntmps - args.length) undef) H) : ACall Go.Proofs.Tryz.prog 47 args H Q := acall_intro mo Go.Proofs.Tryz.func47 c47 h
def R48 : RFunc :=
  ⟨(.seq (.ops [⟨some 4,.mov (.const (.bool false)),none⟩]) (.seq (.ops [⟨some 5,.mov (.tmp 0),none⟩,⟨some 6,.mov (.tmp 1),none⟩,⟨some 7,.neg (.tmp 6),none⟩,⟨some 8,.mov (.tmp 1),none⟩,⟨some 9,.call (.func 29) [.tmp 5,.tmp 7,.tmp 8],none⟩,⟨some 4,.mov (.tmp 9),none⟩]) .ret)),10,[.tmp 4]⟩
theorem c48 : compileFn Go.Proofs.Tryz.prog Go.Proofs.Tryz.f48 = some R48 := by kernel_rfl
theorem n48 : R48.ntmps = 10 := rfl
theorem a48 {args : List Value} {H : AHeap} {Q : Value → AHeap → Prop} (h : AWP Go.Proofs.Tryz.prog none R48.code (Fin R48 Q) (args ++ List.replicate (R48.ntmps - args.length) undef) H) : ACall Go.Proofs.Tryz.prog 48 args H Q := acall_intro mo Go.Proofs.Tryz.func48 c48 h
def R49 : RFunc :=
  ⟨(.seq (.ops [⟨some 2,.box (.tmp 0),none⟩,⟨some 4,.new [.slice none 0 0,.int .i64 0],none⟩,⟨some 5,.mov (.const (.int .i64 0)),none⟩]) (.seq (.ops [⟨some 9,.loadN 2 (.tmp 2),none⟩,⟨some 10,.call (.func 36) [.tmp 9],none⟩,⟨some 8,.mov (.tmp 10),none⟩,⟨some 11,.extract (.tmp 8) 0,none⟩,⟨some 12,.extract (.tmp 8) 1,none⟩,⟨some 6,.new [.slice none 0 0,.int .i64 0],none⟩,⟨none,.store 2 (.tmp 6) (.tmp 11),none⟩,⟨some 7,.mov (.tmp 12),none⟩]) (.seq (.seq (.ops [⟨some 13,.mov (.tmp 7),none⟩,⟨some 14,.cmp .neq (.tmp 13) (.const (.int .i64 0)),none⟩]) (.cond (.tmp 14) (.seq (.ops [⟨some 15,.loadN 2 (.tmp 6),none⟩,⟨some 16,.mov (.tmp 7),none⟩,⟨none,.store 2 (.tmp 4) (.tmp 15),none⟩,⟨some 5,.mov (.tmp 16),none⟩]) .ret) .skip)) (.seq (.draw [(⟨some 17,.loadN 2 (.tmp 6),none⟩,false),(⟨some 18,.loadN 2 (.tmp 6),none⟩,false),(⟨some 19,.mov (.tmp 1),none⟩,false),(⟨some 20,.call (.func 70) [.tmp 18,.tmp 19],none⟩,false),(⟨none,.store 2 (.tmp 4) (.tmp 17),none⟩,false),(⟨some 5,.mov (.tmp 20),none⟩,false)]) .ret)))),21,[(.loadN 2 4),(.tmp 5)]⟩
theorem c49 : compileFn Go.Proofs.Tryz.prog Go.Proofs.Tryz.f49 = some R49 := by kernel_rfl
theorem n49 : R49.ntmps = 21 := rfl
theorem a49 {args : List Value} {H : AHeap} {Q : Value → AHeap → Prop} (h : AWP Go.Proofs.Tryz.prog none R49.code (Fin R49 Q) (args ++ List.replicate (R49.ntmps - args.length) undef) H) : ACall Go.Proofs.Tryz.prog 49 args H Q := acall_intro mo Go.Proofs.Tryz.func49 c49 h
def R50 : RFunc :=
  ⟨(.seq (.ops [⟨some 2,.mov (.const (.int .i64 0)),none⟩]) (.seq (.ops [⟨some 4,.mov (.tmp 0),none⟩,⟨some 5,.call (.func 46) [(.tmp 4),(.func 71)],none⟩,⟨some 3,.mov (.tmp 5),none⟩]) (.seq (.ops [⟨some 6,.mov (.tmp 0),none⟩,⟨some 7,.len (.tmp 6),none⟩,⟨some 8,.cmp .leq (.tmp 7) (.const (.int .i64 200)),none⟩,⟨some 9,.call (.func 32) [.tmp 8,.const (.int .i64 8)],none⟩,⟨some 10,.mov (.tmp 3),none⟩,⟨some 11,.not (.tmp 10),none⟩,⟨some 12,.call (.func 32) [.tmp 11,.const (.int .i64 2)],none⟩,⟨some 13,.buildSlice 1 2 [.int .i64 0,.int .i64 0] [(0,(1,(.tmp 9))),(1,(1,(.tmp 12)))],none⟩,⟨some 14,.call (.func 30) [.tmp 13],none⟩,⟨some 2,.mov (.tmp 14),none⟩]) .ret))),15,[.tmp 2]⟩
theorem c50 : compileFn Go.Proofs.Tryz.prog Go.Proofs.Tryz.f50 = some R50 := by kernel_rfl
theorem n50 : R50.ntmps = 15 := rfl
theorem a50 {args : List Value} {H : AHeap} {Q : Value → AHeap → Prop} (h : AWP Go.Proofs.Tryz.prog none R50.code (Fin R50 Q) (args ++ List.replicate (R50.ntmps - args.length) undef) H) : ACall Go.Proofs.Tryz.prog 50 args H Q := acall_intro mo Go.Proofs.Tryz.func50 c50 h
def R51 : RFunc :=
  ⟨(.seq (.ops [⟨some 4,.mov (.const (.int .i64 0)),none⟩]) (.seq (.ops [⟨some 5,.mov (.const (.int .i64 (-2))),none⟩]) (.seq (.ops [⟨some 11,.mov (.tmp 0),none⟩,⟨some 6,.mov (.tmp 11),none⟩]) (.seq (.seq (.ops [⟨some 12,.mov (.tmp 1),none⟩,⟨some 13,.len (.tmp 12),none⟩,⟨some 14,.mov (.const (.int .i64 0)),none⟩]) (.block 0 (.loop (.seq (.ops [⟨some 15,.cmp .lss (.tmp 14) (.tmp 13),none⟩]) (.seq (.cond (.tmp 15) .skip (.exit 0)) (.seq (.block 1 (.seq (.ops [⟨some 16,.idxAddr 2 (.tmp 12) (.tmp 14),none⟩,⟨some 17,.loadN 2 (.tmp 16),none⟩,⟨some 8,.new [.int .i64 0,.int .i64 0],none⟩,⟨none,.store 2 (.tmp 8) (.tmp 17),none⟩]) (.seq (.ops [⟨some 18,.fieldAddr 0 (.tmp 8),none⟩,⟨some 19,.load (.tmp 18),none⟩,⟨some 20,.mov (.tmp 0),none⟩,⟨some 21,.arith .sub (.tmp 20) (.const (.int .i64 1)),none⟩,⟨some 22,.call (.func 29) [.tmp 19,.const (.int .i64 0),.tmp 21],none⟩,⟨some 23,.mov (.tmp 22),none⟩,⟨some 24,.fieldAddr 1 (.tmp 8),some (23,true)⟩,⟨some 25,.load (.tmp 24),some (23,true)⟩,⟨some 26,.mov (.tmp 0),some (23,true)⟩,⟨some 27,.arith .sub (.tmp 26) (.const (.int .i64 1)),some (23,true)⟩,⟨some 28,.call (.func 29) [.tmp 25,.const (.int .i64 0),.tmp 27],some (23,true)⟩,⟨some 29,.pick (.tmp 23) (.tmp 28) (.const (.bool false)),none⟩,⟨some 9,.mov (.tmp 29),none⟩]) (.seq (.seq (.draw [(⟨some 30,.mov (.tmp 9),none⟩,false),(⟨some 31,.call (.func 32) [.tmp 30,.const (.int .i64 6)],none⟩,false),(⟨some 32,.fieldAddr 0 (.tmp 8),none⟩,false),(⟨some 33,.load (.tmp 32),none⟩,false),(⟨some 34,.fieldAddr 1 (.tmp 8),none⟩,false),(⟨some 35,.load (.tmp 34),none⟩,false),(⟨some 36,.cmp .leq (.tmp 33) (.tmp 35),none⟩,false),(⟨some 37,.mov (.tmp 36),none⟩,false),(⟨some 38,.fieldAddr 0 (.tmp 8),some (37,true)⟩,false),(⟨some 39,.load (.tmp 38),some (37,true)⟩,false),(⟨some 40,.mov (.tmp 5),some (37,true)⟩,false),(⟨some 41,.arith .add (.tmp 40) (.const (.int .i64 1)),some (37,true)⟩,false),(⟨some 42,.cmp .gtr (.tmp 39) (.tmp 41),some (37,true)⟩,false),(⟨some 43,.pick (.tmp 37) (.tmp 42) (.const (.bool false)),none⟩,false),(⟨some 44,.call (.func 32) [.tmp 43,.const (.int .i64 9)],none⟩,false),(⟨some 45,.buildSlice 1 2 [.int .i64 0,.int .i64 0] [(0,(1,(.tmp 31))),(1,(1,(.tmp 44)))],none⟩,false),(⟨some 46,.call (.func 30) [.tmp 45],none⟩,false),(⟨some 10,.mov (.tmp 46),none⟩,false)]) (.seq (.ops [⟨some 47,.mov (.tmp 10),none⟩,⟨some 48,.cmp .neq (.tmp 47) (.const (.int .i64 0)),none⟩]) (.cond (.tmp 48) (.seq (.ops [⟨some 49,.mov (.tmp 10),none⟩,⟨some 4,.mov (.tmp 49),none⟩]) .ret) .skip))) (.seq (.ops [⟨some 50,.fieldAddr 1 (.tmp 8),none⟩,⟨some 51,.load (.tmp 50),none⟩,⟨some 5,.mov (.tmp 51),none⟩]) (.ops [⟨some 52,.mov (.tmp 6),none⟩,⟨some 53,.fieldAddr 1 (.tmp 8),none⟩,⟨some 54,.load (.tmp 53),none⟩,⟨some 55,.fieldAddr 0 (.tmp 8),none⟩,⟨some 56,.load (.tmp 55),none⟩,⟨some 57,.arith .sub (.tmp 54) (.tmp 56),none⟩,⟨some 58,.arith .add (.tmp 57) (.const (.int .i64 1)),none⟩,⟨some 59,.arith .sub (.tmp 52) (.tmp 58),none⟩,⟨some 6,.mov (.tmp 59),none⟩])))))) (.ops [⟨some 60,.arith .add (.tmp 14) (.const (.int .i64 1)),none⟩,⟨some 14,.mov (.tmp 60),none⟩]))))))) (.seq (.ops [⟨some 61,.mov (.tmp 6),none⟩,⟨some 62,.cmp .gtr (.tmp 61) (.const (.int .i64 0)),none⟩,⟨some 63,.mov (.tmp 62),none⟩,⟨some 64,.mov (.tmp 0),some (63,false)⟩,⟨some 65,.cmp .eql (.tmp 64) (.const (.int .i64 0)),some (63,false)⟩,⟨some 66,.pick (.tmp 63) (.const (.bool true)) (.tmp 65),none⟩,⟨some 67,.call (.func 32) [.tmp 66,.const (.int .i64 12)],none⟩,⟨some 4,.mov (.tmp 67),none⟩]) .ret))))),68,[.tmp 4]⟩
theorem c51 : compileFn Go.Proofs.Tryz.prog Go.Proofs.Tryz.f51 = some R51 := by kernel_rfl
theorem n51 : R51.ntmps = 68 := rfl
theorem a51 {args : List Value} {H : AHeap} {Q : Value → AHeap → Prop} (h : AWP Go.Proofs.Tryz.prog none R51.code (Fin R51 Q) (args ++ List.replicate (R51.ntmps - args.length) undef) H) : ACall Go.Proofs.Tryz.prog 51 args H Q := acall_intro mo Go.Proofs.Tryz.func51 c51 h
def R52 : RFunc :=
  ⟨(.seq (.ops [⟨some 4,.mov (.const (.int .i64 0)),none⟩]) (.seq (.seq (.ops [⟨some 5,.mov (.tmp 0),none⟩,⟨some 6,.cmp .lss (.tmp 5) (.const (.int .i64 0)),none⟩]) (.cond (.tmp 6) (.seq (.ops [⟨some 7,.mov (.tmp 1),none⟩,⟨some 8,.arith .sub (.tmp 7) (.const (.int .i64 1)),none⟩,⟨some 9,.mov (.tmp 0),none⟩,⟨some 10,.arith .sub (.tmp 8) (.tmp 9),none⟩,⟨some 11,.mov (.tmp 1),none⟩,⟨some 12,.arith .quo (.tmp 10) (.tmp 11),none⟩,⟨some 13,.neg (.tmp 12),none⟩,⟨some 4,.mov (.tmp 13),none⟩]) .ret) .skip)) (.seq (.ops [⟨some 14,.mov (.tmp 0),none⟩,⟨some 15,.mov (.tmp 1),none⟩,⟨some 16,.arith .quo (.tmp 14) (.tmp 15),none⟩,⟨some 4,.mov (.tmp 16),none⟩]) .ret))),17,[.tmp 4]⟩
theorem c52 : compileFn Go.Proofs.Tryz.prog Go.Proofs.Tryz.f52 = some R52 := by kernel_rfl
theorem n52 : R52.ntmps = 17 := rfl
theorem a52 {args : List Value} {H : AHeap} {Q : Value → AHeap → Prop} (h : AWP Go.Proofs.Tryz.prog none R52.code (Fin R52 Q) (args ++ List.replicate (R52.ntmps - args.length) undef) H) : ACall Go.Proofs.Tryz.prog 52 args H Q := acall_intro mo Go.Proofs.Tryz.func52 c52 h
def R53 : RFunc :=
  ⟨(.seq (.ops [⟨some 4,.mov (.const .nilFunc),none⟩]) (.seq (.ops [⟨some 5,.mov (.tmp 0),none⟩,⟨some 6,.mov (.tmp 1),none⟩,⟨some 7,.call (.func 72) [.tmp 5,.tmp 6,.const (.int .i64 0)],none⟩,⟨some 4,.mov (.tmp 7),none⟩]) .ret)),8,[.tmp 4]⟩
theorem c53 : compileFn Go.Proofs.Tryz.prog Go.Proofs.Tryz.f53 = some R53 := by kernel_rfl
theorem n53 : R53.ntmps = 8 := rfl
theorem a53 {args : List Value} {H : AHeap} {Q : Value → AHeap → Prop} (h : AWP Go.Proofs.Tryz.prog none R53.code (Fin R53 Q) (args ++ List.replicate (R53.ntmps - args.length) undef) H) : ACall Go.Proofs.Tryz.prog 53 args H Q := acall_intro mo Go.Proofs.Tryz.func53 c53 h
def R58 : RFunc :=
  ⟨(.seq (.ops [⟨some 4,.mov (.const (.slice none 0 0)),none⟩,⟨some 5,.mov (.const (.int .i64 0)),none⟩]) (.seq (.seq (.ops [⟨some 11,.mov (.tmp 0),none⟩,⟨some 12,.len (.tmp 11),none⟩,⟨some 13,.cmp .gtr (.tmp 12) (.const (.int .i64 200)),none⟩]) (.cond (.tmp 13) (.seq (.ops [⟨some 4,.mov (.const (.slice none 0 0)),none⟩,⟨some 5,.mov (.const (.int .i64 8)),none⟩]) .ret) .skip)) (.seq (.ops [⟨some 6,.mov (.const (.slice none 0 0)),none⟩]) (.seq (.seq (.ops [⟨some 14,.mov (.tmp 0),none⟩,⟨some 15,.len (.tmp 14),none⟩,⟨some 16,.mov (.const (.int .i64 0)),none⟩]) (.block 0 (.loop (.seq (.ops [⟨some 17,.cmp .lss (.tmp 16) (.tmp 15),none⟩]) (.seq (.cond (.tmp 17) .skip (.exit 0)) (.seq (.block 1 (.seq (.ops [⟨some 18,.idxAddr 2 (.tmp 14) (.tmp 16),none⟩,⟨some 19,.loadN 2 (.tmp 18),none⟩,⟨some 8,.new [.int .i64 0,.int .i64 0],none⟩,⟨none,.store 2 (.tmp 8) (.tmp 19),none⟩]) (.seq (.ops [⟨some 21,.mov (.tmp 1),none⟩,⟨some 22,.loadN 2 (.tmp 8),none⟩,⟨some 23,.call (.tmp 21) [.tmp 22],none⟩,⟨some 20,.mov (.tmp 23),none⟩,⟨some 24,.extract (.tmp 20) 0,none⟩,⟨some 25,.extract (.tmp 20) 1,none⟩,⟨some 9,.new [.int .i64 0,.int .i64 0],none⟩,⟨none,.store 2 (.tmp 9) (.tmp 24),none⟩,⟨some 10,.mov (.tmp 25),none⟩]) (.seq (.seq (.ops [⟨some 26,.mov (.tmp 10),none⟩,⟨some 27,.cmp .neq (.tmp 26) (.const (.int .i64 0)),none⟩]) (.cond (.tmp 27) (.seq (.ops [⟨some 28,.mov (.tmp 10),none⟩,⟨some 4,.mov (.const (.slice none 0 0)),none⟩,⟨some 5,.mov (.tmp 28),none⟩]) .ret) .skip)) (.ops [⟨some 29,.mov (.tmp 6),none⟩,⟨some 30,.loadN 2 (.tmp 9),none⟩,⟨some 31,.buildSlice 2 1 [.int .i64 0,.int .i64 0] [(0,(2,(.tmp 30)))],none⟩,⟨some 32,.append 2 16 (.tmp 29) (.tmp 31),none⟩,⟨some 6,.mov (.tmp 32),none⟩]))))) (.ops [⟨some 33,.arith .add (.tmp 16) (.const (.int .i64 1)),none⟩,⟨some 16,.mov (.tmp 33),none⟩]))))))) (.seq (.ops [⟨some 34,.mov (.tmp 6),none⟩,⟨some 4,.mov (.tmp 34),none⟩,⟨some 5,.mov (.const (.int .i64 0)),none⟩]) .ret))))),35,[.tmp 4,.tmp 5]⟩
theorem c58 : compileFn Go.Proofs.Tryz.prog Go.Proofs.Tryz.f58 = some R58 := by kernel_rfl
def R59 : RFunc :=
  ⟨(.seq (.ops [⟨some 1,.box (.tmp 0),none⟩,⟨some 2,.new [.int .i64 0,.int .i64 0],none⟩,⟨some 3,.mov (.const (.int .i64 0)),none⟩]) (.seq (.ops [⟨some 7,.fieldAddr 0 (.tmp 1),none⟩,⟨some 8,.load (.tmp 7),none⟩,⟨some 9,.call (.func 48) [.tmp 8,.const (.int .i64 2000000)],none⟩,⟨some 10,.mov (.tmp 9),none⟩,⟨some 11,.fieldAddr 1 (.tmp 1),some (10,true)⟩,⟨some 12,.load (.tmp 11),some (10,true)⟩,⟨some 13,.call (.func 48) [.tmp 12,.const (.int .i64 2000000)],some (10,true)⟩,⟨some 14,.pick (.tmp 10) (.tmp 13) (.const (.bool false)),none⟩,⟨some 4,.mov (.tmp 14),none⟩]) (.seq (.seq (.ops [⟨some 15,.mov (.tmp 4),none⟩,⟨some 16,.not (.tmp 15),none⟩]) (.cond (.tmp 16) (.seq (.ops [⟨some 17,.build [.int .i64 0,.int .i64 0] [],none⟩,⟨none,.store 2 (.tmp 2) (.tmp 17),none⟩,⟨some 3,.mov (.const (.int .i64 2)),none⟩]) .ret) .skip)) (.seq (.ops [⟨some 18,.fieldAddr 0 (.tmp 1),none⟩,⟨some 19,.load (.tmp 18),none⟩,⟨some 20,.fieldAddr 1 (.tmp 1),none⟩,⟨some 21,.load (.tmp 20),none⟩,⟨some 22,.arith .sub (.tmp 19) (.tmp 21),none⟩,⟨some 23,.arith .quo (.tmp 22) (.const (.int .i64 2)),none⟩,⟨some 24,.fieldAddr 0 (.tmp 1),none⟩,⟨some 25,.load (.tmp 24),none⟩,⟨some 26,.fieldAddr 1 (.tmp 1),none⟩,⟨some 27,.load (.tmp 26),none⟩,⟨some 28,.arith .add (.tmp 25) (.tmp 27),none⟩,⟨some 29,.arith .quo (.tmp 28) (.const (.int .i64 2)),none⟩,⟨some 30,.build [.int .i64 0,.int .i64 0] [(0,(1,(.tmp 23))),(1,(1,(.tmp 29)))],none⟩,⟨some 5,.new [.int .i64 0,.int .i64 0],none⟩,⟨none,.store 2 (.tmp 5) (.tmp 30),none⟩]) (.seq (.draw [(⟨some 31,.fieldAddr 0 (.tmp 1),none⟩,false),(⟨some 32,.load (.tmp 31),none⟩,false),(⟨some 33,.fieldAddr 1 (.tmp 1),none⟩,false),(⟨some 34,.load (.tmp 33),none⟩,false),(⟨some 35,.arith .sub (.tmp 32) (.tmp 34),none⟩,false),(⟨some 36,.arith .rem (.tmp 35) (.const (.int .i64 2)),none⟩,false),(⟨some 37,.cmp .eql (.tmp 36) (.const (.int .i64 0)),none⟩,false),(⟨some 38,.call (.func 32) [.tmp 37,.const (.int .i64 3)],none⟩,false),(⟨some 39,.fieldAddr 1 (.tmp 1),none⟩,false),(⟨some 40,.load (.tmp 39),none⟩,false),(⟨some 41,.cmp .geq (.tmp 40) (.const (.int .i64 0)),none⟩,false),(⟨some 42,.call (.func 32) [.tmp 41,.const (.int .i64 9)],none⟩,false),(⟨some 43,.fieldAddr 0 (.tmp 5),none⟩,false),(⟨some 44,.load (.tmp 43),none⟩,false),(⟨some 45,.call (.func 48) [.tmp 44,.const (.int .i64 1000000)],none⟩,false),(⟨some 46,.mov (.tmp 45),none⟩,false),(⟨some 47,.fieldAddr 1 (.tmp 5),some (46,true)⟩,false),(⟨some 48,.load (.tmp 47),some (46,true)⟩,false),(⟨some 49,.call (.func 48) [.tmp 48,.const (.int .i64 1000000)],some (46,true)⟩,false),(⟨some 50,.pick (.tmp 46) (.tmp 49) (.const (.bool false)),none⟩,false),(⟨some 51,.call (.func 32) [.tmp 50,.const (.int .i64 23)],none⟩,false),(⟨some 52,.buildSlice 1 3 [.int .i64 0,.int .i64 0,.int .i64 0] [(0,(1,(.tmp 38))),(1,(1,(.tmp 42))),(2,(1,(.tmp 51)))],none⟩,false),(⟨some 53,.call (.func 30) [.tmp 52],none⟩,false),(⟨some 6,.mov (.tmp 53),none⟩,false)]) (.seq (.ops [⟨some 54,.loadN 2 (.tmp 5),none⟩,⟨some 55,.mov (.tmp 6),none⟩,⟨none,.store 2 (.tmp 2) (.tmp 54),none⟩,⟨some 3,.mov (.tmp 55),none⟩]) .ret)))))),56,[(.loadN 2 2),(.tmp 3)]⟩
theorem c59 : compileFn Go.Proofs.Tryz.prog Go.Proofs.Tryz.f59 = some R59 := by kernel_rfl
def R60 : RFunc :=
  ⟨(.seq (.ops [⟨some 7,.box (.tmp 3),none⟩,⟨some 8,.mov (.const (.int .i64 0)),none⟩]) (.seq (.seq (.ops [⟨some 13,.mov (.tmp 0),none⟩,⟨some 14,.len (.tmp 13),none⟩,⟨some 15,.cmp .eql (.tmp 14) (.const (.int .i64 0)),none⟩,⟨some 16,.mov (.tmp 15),none⟩,⟨some 17,.mov (.tmp 0),some (16,false)⟩,⟨some 18,.idxAddr 1 (.tmp 17) (.const (.int .i64 0)),some (16,false)⟩,⟨some 19,.load (.tmp 18),some (16,false)⟩,⟨some 20,.len (.tmp 19),some (16,false)⟩,⟨some 21,.cmp .eql (.tmp 20) (.const (.int .i64 0)),some (16,false)⟩,⟨some 22,.pick (.tmp 16) (.const (.bool true)) (.tmp 21),none⟩]) (.cond (.tmp 22) (.seq (.ops [⟨some 8,.mov (.const (.int .i64 10)),none⟩]) .ret) .skip)) (.seq (.seq (.ops [⟨some 23,.mov (.tmp 0),none⟩,⟨some 24,.len (.tmp 23),none⟩,⟨some 25,.mov (.tmp 1),none⟩,⟨some 26,.cmp .gtr (.tmp 24) (.tmp 25),none⟩,⟨some 27,.mov (.tmp 26),none⟩,⟨some 28,.mov (.tmp 0),some (27,false)⟩,⟨some 29,.idxAddr 1 (.tmp 28) (.const (.int .i64 0)),some (27,false)⟩,⟨some 30,.load (.tmp 29),some (27,false)⟩,⟨some 31,.len (.tmp 30),some (27,false)⟩,⟨some 32,.mov (.tmp 2),some (27,false)⟩,⟨some 33,.cmp .gtr (.tmp 31) (.tmp 32),some (27,false)⟩,⟨some 34,.pick (.tmp 27) (.const (.bool true)) (.tmp 33),none⟩]) (.cond (.tmp 34) (.seq (.ops [⟨some 8,.mov (.const (.int .i64 8)),none⟩]) .ret) .skip)) (.seq (.seq (.ops [⟨some 35,.mov (.tmp 0),none⟩,⟨some 36,.len (.tmp 35),none⟩,⟨some 37,.mov (.const (.int .i64 0)),none⟩]) (.block 0 (.loop (.seq (.ops [⟨some 38,.cmp .lss (.tmp 37) (.tmp 36),none⟩]) (.seq (.cond (.tmp 38) .skip (.exit 0)) (.seq (.block 1 (.seq (.ops [⟨some 39,.idxAddr 1 (.tmp 35) (.tmp 37),none⟩,⟨some 40,.load (.tmp 39),none⟩,⟨some 10,.mov (.tmp 40),none⟩]) (.seq (.ops [⟨some 41,.mov (.tmp 10),none⟩,⟨some 42,.mkFunc (.func 80) [] [.tmp 7],none⟩,⟨some 43,.call (.func 46) [.tmp 41,.tmp 42],none⟩,⟨some 11,.mov (.tmp 43),none⟩]) (.seq (.ops [⟨some 44,.mov (.tmp 10),none⟩,⟨some 45,.len (.tmp 44),none⟩,⟨some 46,.mov (.tmp 0),none⟩,⟨some 47,.idxAddr 1 (.tmp 46) (.const (.int .i64 0)),none⟩,⟨some 48,.load (.tmp 47),none⟩,⟨some 49,.len (.tmp 48),none⟩,⟨some 50,.cmp .eql (.tmp 45) (.tmp 49),none⟩,⟨some 51,.call (.func 32) [.tmp 50,.const (.int .i64 10)],none⟩,⟨some 52,.mov (.tmp 11),none⟩,⟨some 53,.not (.tmp 52),none⟩,⟨some 54,.call (.func 32) [.tmp 53,.const (.int .i64 2)],none⟩,⟨some 55,.buildSlice 1 2 [.int .i64 0,.int .i64 0] [(0,(1,(.tmp 51))),(1,(1,(.tmp 54)))],none⟩,⟨some 56,.call (.func 30) [.tmp 55],none⟩,⟨some 12,.mov (.tmp 56),none⟩]) (.seq (.ops [⟨some 57,.mov (.tmp 12),none⟩,⟨some 58,.cmp .neq (.tmp 57) (.const (.int .i64 0)),none⟩]) (.cond (.tmp 58) (.seq (.ops [⟨some 59,.mov (.tmp 12),none⟩,⟨some 8,.mov (.tmp 59),none⟩]) .ret) .skip)))))) (.ops [⟨some 60,.arith .add (.tmp 37) (.const (.int .i64 1)),none⟩,⟨some 37,.mov (.tmp 60),none⟩]))))))) (.seq (.ops [⟨some 8,.mov (.const (.int .i64 0)),none⟩]) .ret))))),61,[.tmp 8]⟩
theorem c60 : compileFn Go.Proofs.Tryz.prog Go.Proofs.Tryz.f60 = some R60 := by kernel_rfl
theorem n60 : R60.ntmps = 61 := rfl
theorem a60 {args : List Value} {H : AHeap} {Q : Value → AHeap → Prop} (h : AWP Go.Proofs.Tryz.prog none R60.code (Fin R60 Q) (args ++ List.replicate (R60.ntmps - args.length) undef) H) : ACall Go.Proofs.Tryz.prog 60 args H Q := acall_intro mo Go.Proofs.Tryz.func60 c60 h
def R61 : RFunc :=
  ⟨(.seq (.ops [⟨some 5,.mov (.const (.bool false)),none⟩]) (.seq (.ops [⟨some 6,.mov (.tmp 0),none⟩,⟨some 7,.load (.tmp 2),none⟩,⟨some 8,.mov (.tmp 1),none⟩,⟨some 9,.arith .sub (.tmp 8) (.const (.int .i64 1)),none⟩,⟨some 10,.load (.tmp 2),none⟩,⟨some 11,.arith .sub (.tmp 9) (.tmp 10),none⟩,⟨some 12,.call (.func 29) [.tmp 6,.tmp 7,.tmp 11],none⟩,⟨some 5,.mov (.tmp 12),none⟩]) .ret)),13,[.tmp 5]⟩
theorem c61 : compileFn Go.Proofs.Tryz.prog Go.Proofs.Tryz.f61 = some R61 := by kernel_rfl
theorem n61 : R61.ntmps = 13 := rfl
theorem a61 {args : List Value} {H : AHeap} {Q : Value → AHeap → Prop} (h : AWP Go.Proofs.Tryz.prog none R61.code (Fin R61 Q) (args ++ List.replicate (R61.ntmps - args.length) undef) H) : ACall Go.Proofs.Tryz.prog 61 args H Q := acall_intro mo Go.Proofs.Tryz.func61 c61 h
def R62 : RFunc :=
  ⟨(.seq (.ops [⟨some 2,.box (.tmp 0),none⟩,⟨some 3,.box (.tmp 1),none⟩,⟨some 4,.mov (.const .nilFunc),none⟩]) (.seq (.ops [⟨some 5,.mkFunc (.func 81) [] [.tmp 2,.tmp 3],none⟩,⟨some 4,.mov (.tmp 5),none⟩]) .ret)),6,[.tmp 4]⟩
theorem c62 : compileFn Go.Proofs.Tryz.prog Go.Proofs.Tryz.f62 = some R62 := by kernel_rfl
theorem n62 : R62.ntmps = 6 := rfl
theorem a62 {args : List Value} {H : AHeap} {Q : Value → AHeap → Prop} (h : AWP Go.Proofs.Tryz.prog none R62.code (Fin R62 Q) (args ++ List.replicate (R62.ntmps - args.length) undef) H) : ACall Go.Proofs.Tryz.prog 62 args H Q := acall_intro mo Go.Proofs.Tryz.func62 c62 h
def R63 : RFunc :=
  ⟨(.seq (.ops [⟨some 6,.mov (.const (.int .i64 0)),none⟩]) (.seq (.seq (.ops [⟨some 9,.mov (.tmp 0),none⟩,⟨some 10,.len (.tmp 9),none⟩,⟨some 11,.cmp .eql (.tmp 10) (.const (.int .i64 0)),none⟩,⟨some 12,.mov (.tmp 11),none⟩,⟨some 13,.mov (.tmp 0),some (12,false)⟩,⟨some 14,.idxAddr 1 (.tmp 13) (.const (.int .i64 0)),some (12,false)⟩,⟨some 15,.load (.tmp 14),some (12,false)⟩,⟨some 16,.len (.tmp 15),some (12,false)⟩,⟨some 17,.cmp .eql (.tmp 16) (.const (.int .i64 0)),some (12,false)⟩,⟨some 18,.pick (.tmp 12) (.const (.bool true)) (.tmp 17),none⟩]) (.cond (.tmp 18) (.seq (.ops [⟨some 6,.mov (.const (.int .i64 10)),none⟩]) .ret) .skip)) (.seq (.seq (.ops [⟨some 19,.mov (.tmp 0),none⟩,⟨some 20,.len (.tmp 19),none⟩,⟨some 21,.mov (.tmp 1),none⟩,⟨some 22,.cmp .gtr (.tmp 20) (.tmp 21),none⟩,⟨some 23,.mov (.tmp 22),none⟩,⟨some 24,.mov (.tmp 0),some (23,false)⟩,⟨some 25,.idxAddr 1 (.tmp 24) (.const (.int .i64 0)),some (23,false)⟩,⟨some 26,.load (.tmp 25),some (23,false)⟩,⟨some 27,.len (.tmp 26),some (23,false)⟩,⟨some 28,.mov (.tmp 2),some (23,false)⟩,⟨some 29,.cmp .gtr (.tmp 27) (.tmp 28),some (23,false)⟩,⟨some 30,.pick (.tmp 23) (.const (.bool true)) (.tmp 29),none⟩]) (.cond (.tmp 30) (.seq (.ops [⟨some 6,.mov (.const (.int .i64 8)),none⟩]) .ret) .skip)) (.seq (.seq (.ops [⟨some 7,.mov (.const (.int .i64 0)),none⟩]) (.block 0 (.loop (.seq (.seq (.ops [⟨some 31,.mov (.tmp 7),none⟩,⟨some 32,.mov (.tmp 0),none⟩,⟨some 33,.len (.tmp 32),none⟩,⟨some 34,.cmp .lss (.tmp 31) (.tmp 33),none⟩]) (.cond (.tmp 34) .skip (.exit 0))) (.seq (.block 1 (.seq (.seq (.draw [(⟨some 37,.mov (.tmp 0),none⟩,false),(⟨some 38,.mov (.tmp 7),none⟩,false),(⟨some 39,.idxAddr 1 (.tmp 37) (.tmp 38),none⟩,false),(⟨some 40,.load (.tmp 39),none⟩,false),(⟨some 41,.len (.tmp 40),none⟩,false),(⟨some 42,.mov (.tmp 0),none⟩,false),(⟨some 43,.idxAddr 1 (.tmp 42) (.const (.int .i64 0)),none⟩,false),(⟨some 44,.load (.tmp 43),none⟩,false),(⟨some 45,.len (.tmp 44),none⟩,false),(⟨some 46,.cmp .neq (.tmp 41) (.tmp 45),none⟩,false)]) (.cond (.tmp 46) (.seq (.ops [⟨some 6,.mov (.const (.int .i64 10)),none⟩]) .ret) .skip)) (.seq (.ops [⟨some 8,.mov (.const (.int .i64 0)),none⟩]) (.block 2 (.loop (.seq (.seq (.ops [⟨some 47,.mov (.tmp 8),none⟩,⟨some 48,.mov (.tmp 0),none⟩,⟨some 49,.mov (.tmp 7),none⟩,⟨some 50,.idxAddr 1 (.tmp 48) (.tmp 49),none⟩,⟨some 51,.load (.tmp 50),none⟩,⟨some 52,.len (.tmp 51),none⟩,⟨some 53,.cmp .lss (.tmp 47) (.tmp 52),none⟩]) (.cond (.tmp 53) .skip (.exit 2))) (.seq (.block 3 (.seq (.ops [⟨some 56,.mov (.tmp 0),none⟩,⟨some 57,.mov (.tmp 7),none⟩,⟨some 58,.idxAddr 1 (.tmp 56) (.tmp 57),none⟩,⟨some 59,.load (.tmp 58),none⟩,⟨some 60,.mov (.tmp 8),none⟩,⟨some 61,.idxAddr 1 (.tmp 59) (.tmp 60),none⟩,⟨some 62,.load (.tmp 61),none⟩,⟨some 63,.call (.func 5) [.tmp 62,.const (.int .i64 0),.const (.int .i64 255)],none⟩,⟨some 64,.not (.tmp 63),none⟩]) (.cond (.tmp 64) (.seq (.ops [⟨some 6,.mov (.const (.int .i64 2)),none⟩]) .ret) .skip))) (.ops [⟨some 54,.mov (.tmp 8),none⟩,⟨some 55,.arith .add (.tmp 54) (.const (.int .i64 1)),none⟩,⟨some 8,.mov (.tmp 55),none⟩])))))))) (.ops [⟨some 35,.mov (.tmp 7),none⟩,⟨some 36,.arith .add (.tmp 35) (.const (.int .i64 1)),none⟩,⟨some 7,.mov (.tmp 36),none⟩])))))) (.seq (.ops [⟨some 6,.mov (.const (.int .i64 0)),none⟩]) .ret))))),65,[.tmp 6]⟩
theorem c63 : compileFn Go.Proofs.Tryz.prog Go.Proofs.Tryz.f63 = some R63 := by kernel_rfl
theorem n63 : R63.ntmps = 65 := rfl
theorem a63 {args : List Value} {H : AHeap} {Q : Value → AHeap → Prop} (h : AWP Go.Proofs.Tryz.prog none R63.code (Fin R63 Q) (args ++ List.replicate (R63.ntmps - args.length) undef) H) : ACall Go.Proofs.Tryz.prog 63 args H Q := acall_intro mo Go.Proofs.Tryz.func63 c63 h
def R64 : RFunc :=
  ⟨(.seq (.ops [⟨some 2,.mov (.const (.int .i64 0)),none⟩]) (.seq (.ops [⟨some 3,.mov (.tmp 0),none⟩,⟨some 4,.call (.func 82) [.tmp 3,.const (.int .i64 40),.const (.int .i64 12),.const (.int .i64 255)],none⟩,⟨some 2,.mov (.tmp 4),none⟩]) .ret)),5,[.tmp 2]⟩
theorem c64 : compileFn Go.Proofs.Tryz.prog Go.Proofs.Tryz.f64 = some R64 := by kernel_rfl
theorem n64 : R64.ntmps = 5 := rfl
theorem a64 {args : List Value} {H : AHeap} {Q : Value → AHeap → Prop} (h : AWP Go.Proofs.Tryz.prog none R64.code (Fin R64 Q) (args ++ List.replicate (R64.ntmps - args.length) undef) H) : ACall Go.Proofs.Tryz.prog 64 args H Q := acall_intro mo Go.Proofs.Tryz.func64 c64 h
def R65 : RFunc :=
  ⟨(.seq (.ops [⟨some 1,.box (.tmp 0),none⟩,⟨some 2,.mov (.const .nilFunc),none⟩]) (.seq (.ops [⟨some 3,.mkFunc (.func 83) [] [.tmp 1],none⟩,⟨some 2,.mov (.tmp 3),none⟩]) .ret)),4,[.tmp 2]⟩
theorem c65 : compileFn Go.Proofs.Tryz.prog Go.Proofs.Tryz.f65 = some R65 := by kernel_rfl
theorem n65 : R65.ntmps = 4 := rfl
theorem a65 {args : List Value} {H : AHeap} {Q : Value → AHeap → Prop} (h : AWP Go.Proofs.Tryz.prog none R65.code (Fin R65 Q) (args ++ List.replicate (R65.ntmps - args.length) undef) H) : ACall Go.Proofs.Tryz.prog 65 args H Q := acall_intro mo Go.Proofs.Tryz.func65 c65 h
def R66 : RFunc :=
  ⟨(.seq (.ops [⟨some 4,.mov (.const (.slice none 0 0)),none⟩]) (.seq (.seq (.ops [⟨some 9,.mov (.tmp 1),none⟩,⟨some 10,.cmp .lss (.tmp 9) (.const (.int .i64 0)),none⟩]) (.cond (.tmp 10) (.ops [⟨some 11,.iface 9 (.const (.string ⟨#[99,97,110,110,111,116,32,98,101,32,110,101,103,97,116,105,118,101]⟩)),none⟩,⟨none,.extract (.const (.chan none)) 0,none⟩]) .skip)) (.seq (.ops [⟨some 13,.mov (.tmp 0),none⟩,⟨some 14,.len (.tmp 13),none⟩,⟨some 15,.conv .u64 (.tmp 14),none⟩,⟨some 16,.mov (.tmp 1),none⟩,⟨some 17,.conv .u64 (.tmp 16),none⟩,⟨some 18,.call (.func 84) [.tmp 15,.tmp 17],none⟩,⟨some 12,.mov (.tmp 18),none⟩,⟨some 19,.extract (.tmp 12) 0,none⟩,⟨some 20,.extract (.tmp 12) 1,none⟩,⟨some 5,.mov (.tmp 19),none⟩,⟨some 6,.mov (.tmp 20),none⟩]) (.seq (.seq (.ops [⟨some 21,.mov (.tmp 5),none⟩,⟨some 22,.cmp .gtr (.tmp 21) (.const (.int .u64 0)),none⟩,⟨some 23,.mov (.tmp 22),none⟩,⟨some 24,.mov (.tmp 6),some (23,false)⟩,⟨some 25,.cmp .gtr (.tmp 24) (.const (.int .u64 9223372036854775807)),some (23,false)⟩,⟨some 26,.pick (.tmp 23) (.const (.bool true)) (.tmp 25),none⟩]) (.cond (.tmp 26) (.ops [⟨some 27,.iface 9 (.const (.string ⟨#[116,104,101,32,114,101,115,117,108,116,32,111,102,32,40,108,101,110,40,120,41,32,42,32,99,111,117,110,116,41,32,111,118,101,114,102,108,111,119,115]⟩)),none⟩,⟨none,.extract (.const (.chan none)) 0,none⟩]) .skip)) (.seq (.ops [⟨some 28,.mov (.tmp 6),none⟩,⟨some 29,.conv .i64 (.tmp 28),none⟩,⟨some 30,.mkSlice 8 [.int .i64 0] (.tmp 29) (.tmp 29),none⟩,⟨some 7,.mov (.tmp 30),none⟩]) (.seq (.ops [⟨some 31,.mov (.tmp 7),none⟩,⟨some 32,.mov (.tmp 0),none⟩,⟨some 33,.copy 1 (.tmp 31) (.tmp 32),none⟩,⟨some 8,.mov (.tmp 33),none⟩]) (.seq (.block 0 (.loop (.seq (.seq (.ops [⟨some 34,.mov (.tmp 8),none⟩,⟨some 35,.mov (.tmp 7),none⟩,⟨some 36,.len (.tmp 35),none⟩,⟨some 37,.cmp .lss (.tmp 34) (.tmp 36),none⟩]) (.cond (.tmp 37) .skip (.exit 0))) (.block 1 (.draw [(⟨some 38,.mov (.tmp 8),none⟩,false),(⟨some 39,.mov (.tmp 7),none⟩,false),(⟨some 40,.mov (.tmp 8),none⟩,false),(⟨some 41,.slice 1 (.tmp 39) (some (.tmp 40)) none none,none⟩,false),(⟨some 42,.mov (.tmp 7),none⟩,false),(⟨some 43,.mov (.tmp 8),none⟩,false),(⟨some 44,.slice 1 (.tmp 42) none (some (.tmp 43)) none,none⟩,false),(⟨some 45,.copy 1 (.tmp 41) (.tmp 44),none⟩,false),(⟨some 46,.arith .add (.tmp 38) (.tmp 45),none⟩,false),(⟨some 8,.mov (.tmp 46),none⟩,false)]))))) (.seq (.ops [⟨some 47,.mov (.tmp 7),none⟩,⟨some 4,.mov (.tmp 47),none⟩]) .ret)))))))),48,[.tmp 4]⟩
theorem c66 : compileFn Go.Proofs.Tryz.prog Go.Proofs.Tryz.f66 = some R66 := by kernel_rfl
theorem n66 : R66.ntmps = 48 := rfl
theorem a66 {args : List Value} {H : AHeap} {Q : Value → AHeap → Prop} (h : AWP Go.Proofs.Tryz.prog none R66.code (Fin R66 Q) (args ++ List.replicate (R66.ntmps - args.length) undef) H) : ACall Go.Proofs.Tryz.prog 66 args H Q := acall_intro mo Go.Proofs.Tryz.func66 c66 h
def R67 : RFunc :=
  ⟨(.seq (.ops [⟨some 2,.box (.tmp 0),none⟩,⟨some 3,.box (.tmp 1),none⟩,⟨some 4,.mov (.const .nilFunc),none⟩]) (.seq (.ops [⟨some 5,.mkFunc (.func 85) [] [.tmp 3,.tmp 2],none⟩,⟨some 4,.mov (.tmp 5),none⟩]) .ret)),6,[.tmp 4]⟩
theorem c67 : compileFn Go.Proofs.Tryz.prog Go.Proofs.Tryz.f67 = some R67 := by kernel_rfl
theorem n67 : R67.ntmps = 6 := rfl
theorem a67 {args : List Value} {H : AHeap} {Q : Value → AHeap → Prop} (h : AWP Go.Proofs.Tryz.prog none R67.code (Fin R67 Q) (args ++ List.replicate (R67.ntmps - args.length) undef) H) : ACall Go.Proofs.Tryz.prog 67 args H Q := acall_intro mo Go.Proofs.Tryz.func67 c67 h
def R68 : RFunc :=
  ⟨(.seq (.ops [⟨some 3,.box (.tmp 0),none⟩,⟨some 6,.mov (.const (.int .i64 0)),none⟩]) (.seq (.seq (.ops [⟨some 7,.mov (.tmp 1),none⟩,⟨some 8,.mov (.tmp 2),none⟩,⟨some 9,.cmp .eql (.tmp 7) (.tmp 8),none⟩]) (.cond (.tmp 9) (.seq (.ops [⟨some 6,.mov (.const (.int .i64 0)),none⟩]) .ret) .skip)) (.seq (.ops [⟨some 10,.fieldAddr 0 (.tmp 3),none⟩,⟨some 11,.fieldAddr 1 (.tmp 10),none⟩,⟨some 12,.load (.tmp 11),none⟩,⟨some 6,.mov (.tmp 12),none⟩]) .ret))),13,[.tmp 6]⟩
theorem c68 : compileFn Go.Proofs.Tryz.prog Go.Proofs.Tryz.f68 = some R68 := by kernel_rfl
theorem n68 : R68.ntmps = 13 := rfl
theorem a68 {args : List Value} {H : AHeap} {Q : Value → AHeap → Prop} (h : AWP Go.Proofs.Tryz.prog none R68.code (Fin R68 Q) (args ++ List.replicate (R68.ntmps - args.length) undef) H) : ACall Go.Proofs.Tryz.prog 68 args H Q := acall_intro mo Go.Proofs.Tryz.func68 c68 h
def R69 : RFunc :=
  ⟨(.seq (.ops [⟨some 4,.mov (.const (.int .i64 0)),none⟩]) (.seq (.seq (.ops [⟨some 6,.mov (.tmp 0),none⟩,⟨some 7,.len (.tmp 6),none⟩,⟨some 8,.mov (.const (.int .i64 0)),none⟩]) (.block 0 (.loop (.seq (.ops [⟨some 9,.cmp .lss (.tmp 8) (.tmp 7),none⟩]) (.seq (.cond (.tmp 9) .skip (.exit 0)) (.seq (.block 1 (.seq (.ops [⟨some 10,.mov (.tmp 8),none⟩,⟨some 5,.mov (.tmp 10),none⟩]) (.seq (.ops [⟨some 11,.mov (.tmp 1),none⟩,⟨some 12,.mov (.tmp 0),none⟩,⟨some 13,.mov (.tmp 5),none⟩,⟨some 14,.idxAddr 1 (.tmp 12) (.tmp 13),none⟩,⟨some 15,.load (.tmp 14),none⟩,⟨some 16,.call (.tmp 11) [.tmp 15],none⟩]) (.cond (.tmp 16) (.seq (.ops [⟨some 17,.mov (.tmp 5),none⟩,⟨some 4,.mov (.tmp 17),none⟩]) .ret) .skip)))) (.ops [⟨some 18,.arith .add (.tmp 8) (.const (.int .i64 1)),none⟩,⟨some 8,.mov (.tmp 18),none⟩]))))))) (.seq (.ops [⟨some 4,.mov (.const (.int .i64 (-1))),none⟩]) .ret))),19,[.tmp 4]⟩
theorem c69 : compileFn Go.Proofs.Tryz.prog Go.Proofs.Tryz.f69 = some R69 := by kernel_rfl
theorem n69 : R69.ntmps = 19 := rfl
theorem a69 {args : List Value} {H : AHeap} {Q : Value → AHeap → Prop} (h : AWP Go.Proofs.Tryz.prog none R69.code (Fin R69 Q) (args ++ List.replicate (R69.ntmps - args.length) undef) H) : ACall Go.Proofs.Tryz.prog 69 args H Q := acall_intro mo Go.Proofs.Tryz.func69 c69 h
def R70 : RFunc :=
  ⟨(.seq (.ops [⟨some 2,.box (.tmp 0),none⟩,⟨some 4,.mov (.const (.int .i64 0)),none⟩]) (.seq (.seq (.ops [⟨some 7,.mov (.tmp 1),none⟩,⟨some 8,.len (.tmp 7),none⟩,⟨some 9,.fieldAddr 0 (.tmp 2),none⟩,⟨some 10,.fieldAddr 0 (.tmp 9),none⟩,⟨some 11,.load (.tmp 10),none⟩,⟨some 12,.len (.tmp 11),none⟩,⟨some 13,.cmp .neq (.tmp 8) (.tmp 12),none⟩]) (.cond (.tmp 13) (.seq (.ops [⟨some 4,.mov (.const (.int .i64 10)),none⟩]) .ret) .skip)) (.seq (.seq (.ops [⟨some 14,.mov (.tmp 1),none⟩,⟨some 15,.len (.tmp 14),none⟩,⟨some 16,.mov (.const (.int .i64 0)),none⟩]) (.block 0 (.loop (.seq (.ops [⟨some 17,.cmp .lss (.tmp 16) (.tmp 15),none⟩]) (.seq (.cond (.tmp 17) .skip (.exit 0)) (.seq (.block 1 (.seq (.ops [⟨some 18,.mov (.tmp 16),none⟩,⟨some 19,.idxAddr 1 (.tmp 14) (.tmp 16),none⟩,⟨some 20,.load (.tmp 19),none⟩,⟨some 5,.mov (.tmp 18),none⟩,⟨some 6,.mov (.tmp 20),none⟩]) (.seq (.seq (.ops [⟨some 21,.mov (.tmp 6),none⟩,⟨some 22,.loadN 2 (.tmp 2),none⟩,⟨some 23,.call (.func 44) [.tmp 22],none⟩,⟨some 24,.arith .sub (.tmp 23) (.const (.int .i64 1)),none⟩,⟨some 25,.call (.func 29) [.tmp 21,.const (.int .i64 0),.tmp 24],none⟩,⟨some 26,.not (.tmp 25),none⟩]) (.cond (.tmp 26) (.seq (.ops [⟨some 4,.mov (.const (.int .i64 6)),none⟩]) .ret) .skip)) (.seq (.ops [⟨some 27,.mov (.tmp 5),none⟩,⟨some 28,.cmp .gtr (.tmp 27) (.const (.int .i64 0)),none⟩,⟨some 29,.mov (.tmp 28),none⟩,⟨some 30,.mov (.tmp 6),some (29,true)⟩,⟨some 31,.mov (.tmp 1),some (29,true)⟩,⟨some 32,.mov (.tmp 5),some (29,true)⟩,⟨some 33,.arith .sub (.tmp 32) (.const (.int .i64 1)),some (29,true)⟩,⟨some 34,.idxAddr 1 (.tmp 31) (.tmp 33),some (29,true)⟩,⟨some 35,.load (.tmp 34),some (29,true)⟩,⟨some 36,.arith .sub (.tmp 30) (.tmp 35),some (29,true)⟩,⟨some 37,.call (.func 48) [.tmp 36,.const (.int .i64 1)],some (29,true)⟩,⟨some 38,.not (.tmp 37),some (29,true)⟩,⟨some 39,.pick (.tmp 29) (.tmp 38) (.const (.bool false)),none⟩]) (.cond (.tmp 39) (.seq (.ops [⟨some 4,.mov (.const (.int .i64 9)),none⟩]) .ret) .skip))))) (.ops [⟨some 40,.arith .add (.tmp 16) (.const (.int .i64 1)),none⟩,⟨some 16,.mov (.tmp 40),none⟩]))))))) (.seq (.ops [⟨some 4,.mov (.const (.int .i64 0)),none⟩]) .ret)))),41,[.tmp 4]⟩
theorem c70 : compileFn Go.Proofs.Tryz.prog Go.Proofs.Tryz.f70 = some R70 := by kernel_rfl
theorem n70 : R70.ntmps = 41 := rfl
theorem a70 {args : List Value} {H : AHeap} {Q : Value → AHeap → Prop} (h : AWP Go.Proofs.Tryz.prog none R70.code (Fin R70 Q) (args ++ List.replicate (R70.ntmps - args.length) undef) H) : ACall Go.Proofs.Tryz.prog 70 args H Q := acall_intro mo Go.Proofs.Tryz.func70 c70 h
def R71 : RFunc :=
  ⟨(.seq (.ops [⟨some 2,.mov (.const (.bool false)),none⟩]) (.seq (.ops [⟨some 3,.mov (.tmp 0),none⟩,⟨some 4,.call (.func 48) [.tmp 3,.const (.int .i64 1000000)],none⟩,⟨some 5,.not (.tmp 4),none⟩,⟨some 2,.mov (.tmp 5),none⟩]) .ret)),6,[.tmp 2]⟩
theorem c71 : compileFn Go.Proofs.Tryz.prog Go.Proofs.Tryz.f71 = some R71 := by kernel_rfl
theorem n71 : R71.ntmps = 6 := rfl
theorem a71 {args : List Value} {H : AHeap} {Q : Value → AHeap → Prop} (h : AWP Go.Proofs.Tryz.prog none R71.code (Fin R71 Q) (args ++ List.replicate (R71.ntmps - args.length) undef) H) : ACall Go.Proofs.Tryz.prog 71 args H Q := acall_intro mo Go.Proofs.Tryz.func71 c71 h
def R72 : RFunc :=
  ⟨(.seq (.ops [⟨some 3,.box (.tmp 0),none⟩,⟨some 4,.box (.tmp 1),none⟩,⟨some 5,.box (.tmp 2),none⟩,⟨some 6,.mov (.const .nilFunc),none⟩]) (.seq (.ops [⟨some 7,.mkFunc (.func 86) [] [.tmp 4,.tmp 3,.tmp 5],none⟩,⟨some 6,.mov (.tmp 7),none⟩]) .ret)),8,[.tmp 6]⟩
theorem c72 : compileFn Go.Proofs.Tryz.prog Go.Proofs.Tryz.f72 = some R72 := by kernel_rfl
theorem n72 : R72.ntmps = 8 := rfl
theorem a72 {args : List Value} {H : AHeap} {Q : Value → AHeap → Prop} (h : AWP Go.Proofs.Tryz.prog none R72.code (Fin R72 Q) (args ++ List.replicate (R72.ntmps - args.length) undef) H) : ACall Go.Proofs.Tryz.prog 72 args H Q := acall_intro mo Go.Proofs.Tryz.func72 c72 h
def R80 : RFunc :=
  ⟨(.seq (.ops [⟨some 3,.mov (.const (.bool false)),none⟩]) (.seq (.ops [⟨some 4,.mov (.tmp 0),none⟩,⟨some 5,.load (.tmp 1),none⟩,⟨some 6,.call (.func 29) [.tmp 4,.const (.int .i64 0),.tmp 5],none⟩,⟨some 7,.not (.tmp 6),none⟩,⟨some 3,.mov (.tmp 7),none⟩]) .ret)),8,[.tmp 3]⟩
theorem c80 : compileFn Go.Proofs.Tryz.prog Go.Proofs.Tryz.f80 = some R80 := by kernel_rfl
theorem n80 : R80.ntmps = 8 := rfl
theorem a80 {args : List Value} {H : AHeap} {Q : Value → AHeap → Prop} (h : AWP Go.Proofs.Tryz.prog none R80.code (Fin R80 Q) (args ++ List.replicate (R80.ntmps - args.length) undef) H) : ACall Go.Proofs.Tryz.prog 80 args H Q := acall_intro mo Go.Proofs.Tryz.func80 c80 h
def R81 : RFunc :=
  ⟨(.seq (.ops [⟨some 7,.fieldAddr 0 (.tmp 1),none⟩,⟨some 8,.load (.tmp 7),none⟩,⟨some 9,.load (.tmp 2),none⟩,⟨some 10,.arith .add (.tmp 8) (.tmp 9),none⟩,⟨some 11,.fieldAddr 1 (.tmp 1),none⟩,⟨some 12,.load (.tmp 11),none⟩,⟨some 13,.build [.int .i64 0,.int .i64 0] [(0,(1,(.tmp 10))),(1,(1,(.tmp 12)))],none⟩,⟨some 4,.new [.int .i64 0,.int .i64 0],none⟩,⟨none,.store 2 (.tmp 4) (.tmp 13),none⟩]) (.seq (.ops [⟨some 14,.loadN 15 (.global 0),none⟩,⟨some 15,.mov (.const (.int .i64 0)),none⟩]) (.block 0 (.loop (.seq (.ops [⟨some 16,.cmp .lss (.tmp 15) (.const (.int .i64 5)),none⟩]) (.seq (.cond (.tmp 16) .skip (.exit 0)) (.seq (.block 1 (.seq (.ops [⟨some 17,.idxAN 5 3 (.tmp 14) (.tmp 15),none⟩,⟨some 6,.new [.int .i64 0,.int .i64 0,.int .i64 0],none⟩,⟨none,.store 3 (.tmp 6) (.tmp 17),none⟩]) (.seq (.ops [⟨some 18,.fieldAddr 2 (.tmp 6),none⟩,⟨some 19,.load (.tmp 18),none⟩,⟨some 20,.load (.tmp 2),none⟩,⟨some 21,.arith .mul (.tmp 19) (.tmp 20),none⟩,⟨some 22,.mov (.const (.int .i64 0)),none⟩]) (.block 2 (.loop (.seq (.ops [⟨some 23,.cmp .lss (.tmp 22) (.tmp 21),none⟩]) (.seq (.cond (.tmp 23) .skip (.exit 2)) (.seq (.block 3 (.seq (.seq (.ops [⟨some 24,.mov (.tmp 0),none⟩,⟨some 25,.loadN 2 (.tmp 4),none⟩,⟨some 26,.call (.tmp 24) [.tmp 25],none⟩,⟨some 27,.not (.tmp 26),none⟩]) (.cond (.tmp 27) .ret .skip)) (.ops [⟨some 28,.fieldAddr 0 (.tmp 4),none⟩,⟨some 29,.load (.tmp 28),none⟩,⟨some 30,.fieldAddr 0 (.tmp 6),none⟩,⟨some 31,.load (.tmp 30),none⟩,⟨some 32,.arith .add (.tmp 29) (.tmp 31),none⟩,⟨some 33,.fieldAddr 1 (.tmp 4),none⟩,⟨some 34,.load (.tmp 33),none⟩,⟨some 35,.fieldAddr 1 (.tmp 6),none⟩,⟨some 36,.load (.tmp 35),none⟩,⟨some 37,.arith .add (.tmp 34) (.tmp 36),none⟩,⟨some 38,.build [.int .i64 0,.int .i64 0] [(0,(1,(.tmp 32))),(1,(1,(.tmp 37)))],none⟩,⟨none,.store 2 (.tmp 4) (.tmp 38),none⟩]))) (.ops [⟨some 39,.arith .add (.tmp 22) (.const (.int .i64 1)),none⟩,⟨some 22,.mov (.tmp 39),none⟩]))))))))) (.ops [⟨some 40,.arith .add (.tmp 15) (.const (.int .i64 1)),none⟩,⟨some 15,.mov (.tmp 40),none⟩])))))))),41,[]⟩
theorem c81 : compileFn Go.Proofs.Tryz.prog Go.Proofs.Tryz.f81 = some R81 := by kernel_rfl
theorem n81 : R81.ntmps = 41 := rfl
theorem a81 {args : List Value} {H : AHeap} {Q : Value → AHeap → Prop} (h : AWP Go.Proofs.Tryz.prog none R81.code (Fin R81 Q) (args ++ List.replicate (R81.ntmps - args.length) undef) H) : ACall Go.Proofs.Tryz.prog 81 args H Q := acall_intro mo Go.Proofs.Tryz.func81 c81 h
def R82 : RFunc :=
  ⟨(.seq (.ops [⟨some 7,.box (.tmp 3),none⟩,⟨some 8,.mov (.const (.int .i64 0)),none⟩]) (.seq (.seq (.ops [⟨some 13,.mov (.tmp 0),none⟩,⟨some 14,.len (.tmp 13),none⟩,⟨some 15,.cmp .eql (.tmp 14) (.const (.int .i64 0)),none⟩,⟨some 16,.mov (.tmp 15),none⟩,⟨some 17,.mov (.tmp 0),some (16,false)⟩,⟨some 18,.idxAddr 1 (.tmp 17) (.const (.int .i64 0)),some (16,false)⟩,⟨some 19,.load (.tmp 18),some (16,false)⟩,⟨some 20,.len (.tmp 19),some (16,false)⟩,⟨some 21,.cmp .eql (.tmp 20) (.const (.int .i64 0)),some (16,false)⟩,⟨some 22,.pick (.tmp 16) (.const (.bool true)) (.tmp 21),none⟩]) (.cond (.tmp 22) (.seq (.ops [⟨some 8,.mov (.const (.int .i64 10)),none⟩]) .ret) .skip)) (.seq (.seq (.ops [⟨some 23,.mov (.tmp 0),none⟩,⟨some 24,.len (.tmp 23),none⟩,⟨some 25,.mov (.tmp 1),none⟩,⟨some 26,.cmp .gtr (.tmp 24) (.tmp 25),none⟩,⟨some 27,.mov (.tmp 26),none⟩,⟨some 28,.mov (.tmp 0),some (27,false)⟩,⟨some 29,.idxAddr 1 (.tmp 28) (.const (.int .i64 0)),some (27,false)⟩,⟨some 30,.load (.tmp 29),some (27,false)⟩,⟨some 31,.len (.tmp 30),some (27,false)⟩,⟨some 32,.mov (.tmp 2),some (27,false)⟩,⟨some 33,.cmp .gtr (.tmp 31) (.tmp 32),some (27,false)⟩,⟨some 34,.pick (.tmp 27) (.const (.bool true)) (.tmp 33),none⟩]) (.cond (.tmp 34) (.seq (.ops [⟨some 8,.mov (.const (.int .i64 8)),none⟩]) .ret) .skip)) (.seq (.seq (.ops [⟨some 35,.mov (.tmp 0),none⟩,⟨some 36,.len (.tmp 35),none⟩,⟨some 37,.mov (.const (.int .i64 0)),none⟩]) (.block 0 (.loop (.seq (.ops [⟨some 38,.cmp .lss (.tmp 37) (.tmp 36),none⟩]) (.seq (.cond (.tmp 38) .skip (.exit 0)) (.seq (.block 1 (.seq (.ops [⟨some 39,.idxAddr 1 (.tmp 35) (.tmp 37),none⟩,⟨some 40,.load (.tmp 39),none⟩,⟨some 10,.mov (.tmp 40),none⟩]) (.seq (.ops [⟨some 41,.mov (.tmp 10),none⟩,⟨some 42,.mkFunc (.func 98) [] [.tmp 7],none⟩,⟨some 43,.call (.func 46) [.tmp 41,.tmp 42],none⟩,⟨some 11,.mov (.tmp 43),none⟩]) (.seq (.ops [⟨some 44,.mov (.tmp 10),none⟩,⟨some 45,.len (.tmp 44),none⟩,⟨some 46,.mov (.tmp 0),none⟩,⟨some 47,.idxAddr 1 (.tmp 46) (.const (.int .i64 0)),none⟩,⟨some 48,.load (.tmp 47),none⟩,⟨some 49,.len (.tmp 48),none⟩,⟨some 50,.cmp .eql (.tmp 45) (.tmp 49),none⟩,⟨some 51,.call (.func 32) [.tmp 50,.const (.int .i64 10)],none⟩,⟨some 52,.mov (.tmp 11),none⟩,⟨some 53,.not (.tmp 52),none⟩,⟨some 54,.call (.func 32) [.tmp 53,.const (.int .i64 2)],none⟩,⟨some 55,.buildSlice 1 2 [.int .i64 0,.int .i64 0] [(0,(1,(.tmp 51))),(1,(1,(.tmp 54)))],none⟩,⟨some 56,.call (.func 30) [.tmp 55],none⟩,⟨some 12,.mov (.tmp 56),none⟩]) (.seq (.ops [⟨some 57,.mov (.tmp 12),none⟩,⟨some 58,.cmp .neq (.tmp 57) (.const (.int .i64 0)),none⟩]) (.cond (.tmp 58) (.seq (.ops [⟨some 59,.mov (.tmp 12),none⟩,⟨some 8,.mov (.tmp 59),none⟩]) .ret) .skip)))))) (.ops [⟨some 60,.arith .add (.tmp 37) (.const (.int .i64 1)),none⟩,⟨some 37,.mov (.tmp 60),none⟩]))))))) (.seq (.ops [⟨some 8,.mov (.const (.int .i64 0)),none⟩]) .ret))))),61,[.tmp 8]⟩
theorem c82 : compileFn Go.Proofs.Tryz.prog Go.Proofs.Tryz.f82 = some R82 := by kernel_rfl
theorem n82 : R82.ntmps = 61 := rfl
theorem a82 {args : List Value} {H : AHeap} {Q : Value → AHeap → Prop} (h : AWP Go.Proofs.Tryz.prog none R82.code (Fin R82 Q) (args ++ List.replicate (R82.ntmps - args.length) undef) H) : ACall Go.Proofs.Tryz.prog 82 args H Q := acall_intro mo Go.Proofs.Tryz.func82 c82 h
def R83 : RFunc :=
  ⟨(.seq (.ops [⟨some 4,.load (.tmp 1),none⟩,⟨some 5,.len (.tmp 4),none⟩,⟨some 6,.arith .sub (.tmp 5) (.const (.int .i64 1)),none⟩,⟨some 3,.mov (.tmp 6),none⟩]) (.block 0 (.loop (.seq (.seq (.ops [⟨some 7,.mov (.tmp 3),none⟩,⟨some 8,.cmp .geq (.tmp 7) (.const (.int .i64 0)),none⟩]) (.cond (.tmp 8) .skip (.exit 0))) (.seq (.block 1 (.seq (.ops [⟨some 11,.mov (.tmp 0),none⟩,⟨some 12,.mov (.tmp 3),none⟩,⟨some 13,.load (.tmp 1),none⟩,⟨some 14,.mov (.tmp 3),none⟩,⟨some 15,.idxAddr 1 (.tmp 13) (.tmp 14),none⟩,⟨some 16,.load (.tmp 15),none⟩,⟨some 17,.call (.tmp 11) [.tmp 12,.tmp 16],none⟩,⟨some 18,.not (.tmp 17),none⟩]) (.cond (.tmp 18) .ret .skip))) (.ops [⟨some 9,.mov (.tmp 3),none⟩,⟨some 10,.arith .sub (.tmp 9) (.const (.int .i64 1)),none⟩,⟨some 3,.mov (.tmp 10),none⟩])))))),19,[]⟩
theorem c83 : compileFn Go.Proofs.Tryz.prog Go.Proofs.Tryz.f83 = some R83 := by kernel_rfl
theorem n83 : R83.ntmps = 19 := rfl
theorem a83 {args : List Value} {H : AHeap} {Q : Value → AHeap → Prop} (h : AWP Go.Proofs.Tryz.prog none R83.code (Fin R83 Q) (args ++ List.replicate (R83.ntmps - args.length) undef) H) : ACall Go.Proofs.Tryz.prog 83 args H Q := acall_intro mo Go.Proofs.Tryz.func83 c83 h
def R84 : RFunc :=
  ⟨(.seq (.ops [⟨some 4,.mov (.const (.int .u64 0)),none⟩,⟨some 5,.mov (.const (.int .u64 0)),none⟩]) (.seq (.cond (.const (.bool false)) (.seq (.ops [⟨some 11,.mov (.tmp 0),none⟩,⟨some 12,.conv .u32 (.tmp 11),none⟩,⟨some 13,.mov (.tmp 1),none⟩,⟨some 14,.conv .u32 (.tmp 13),none⟩,⟨some 15,.call (.func 99) [.tmp 12,.tmp 14],none⟩,⟨some 10,.mov (.tmp 15),none⟩,⟨some 16,.extract (.tmp 10) 0,none⟩,⟨some 17,.extract (.tmp 10) 1,none⟩,⟨some 6,.mov (.tmp 16),none⟩,⟨some 7,.mov (.tmp 17),none⟩]) (.seq (.ops [⟨some 18,.mov (.tmp 6),none⟩,⟨some 19,.conv .u64 (.tmp 18),none⟩,⟨some 20,.mov (.tmp 7),none⟩,⟨some 21,.conv .u64 (.tmp 20),none⟩,⟨some 4,.mov (.tmp 19),none⟩,⟨some 5,.mov (.tmp 21),none⟩]) .ret)) .skip) (.seq (.ops [⟨some 23,.mov (.tmp 0),none⟩,⟨some 24,.mov (.tmp 1),none⟩,⟨some 25,.call (.func 100) [.tmp 23,.tmp 24],none⟩,⟨some 22,.mov (.tmp 25),none⟩,⟨some 26,.extract (.tmp 22) 0,none⟩,⟨some 27,.extract (.tmp 22) 1,none⟩,⟨some 8,.mov (.tmp 26),none⟩,⟨some 9,.mov (.tmp 27),none⟩]) (.seq (.ops [⟨some 28,.mov (.tmp 8),none⟩,⟨some 29,.mov (.tmp 9),none⟩,⟨some 4,.mov (.tmp 28),none⟩,⟨some 5,.mov (.tmp 29),none⟩]) .ret)))),30,[.tmp 4,.tmp 5]⟩
theorem c84 : compileFn Go.Proofs.Tryz.prog Go.Proofs.Tryz.f84 = some R84 := by kernel_rfl
theorem a84 {args : List Value} {H : AHeap} {Q : Value → AHeap → Prop} (h : AWP Go.Proofs.Tryz.prog none R84.code (Fin R84 Q) (args ++ List.replicate (R84.ntmps - args.length) undef) H) : ACall Go.Proofs.Tryz.prog 84 args H Q := acall_intro mo Go.Proofs.Tryz.func84 c84 h
def R85 : RFunc :=
  ⟨(.seq (.ops [⟨some 5,.load (.tmp 1),none⟩,⟨some 6,.arith .sub (.tmp 5) (.const (.int .i64 1)),none⟩,⟨some 7,.most true (.const (.int .i64 0)) [.tmp 6],none⟩,⟨some 4,.mov (.tmp 7),none⟩]) (.block 0 (.loop (.seq (.seq (.draw [(⟨some 8,.mov (.tmp 4),none⟩,false),(⟨some 9,.load (.tmp 1),none⟩,false),(⟨some 10,.arith .add (.tmp 9) (.const (.int .i64 1)),none⟩,false),(⟨some 11,.loadN 2 (.tmp 2),none⟩,false),(⟨some 12,.call (.func 44) [.tmp 11],none⟩,false),(⟨some 13,.arith .sub (.tmp 12) (.const (.int .i64 1)),none⟩,false),(⟨some 14,.most false (.tmp 10) [.tmp 13],none⟩,false),(⟨some 15,.cmp .leq (.tmp 8) (.tmp 14),none⟩,false)]) (.cond (.tmp 15) .skip (.exit 0))) (.seq (.block 1 (.seq (.ops [⟨some 18,.mov (.tmp 0),none⟩,⟨some 19,.mov (.tmp 4),none⟩,⟨some 20,.call (.tmp 18) [.tmp 19],none⟩,⟨some 21,.not (.tmp 20),none⟩]) (.cond (.tmp 21) .ret .skip))) (.ops [⟨some 16,.mov (.tmp 4),none⟩,⟨some 17,.arith .add (.tmp 16) (.const (.int .i64 1)),none⟩,⟨some 4,.mov (.tmp 17),none⟩])))))),22,[]⟩
theorem c85 : compileFn Go.Proofs.Tryz.prog Go.Proofs.Tryz.f85 = some R85 := by kernel_rfl
theorem n85 : R85.ntmps = 22 := rfl
theorem a85 {args : List Value} {H : AHeap} {Q : Value → AHeap → Prop} (h : AWP Go.Proofs.Tryz.prog none R85.code (Fin R85 Q) (args ++ List.replicate (R85.ntmps - args.length) undef) H) : ACall Go.Proofs.Tryz.prog 85 args H Q := acall_intro mo Go.Proofs.Tryz.func85 c85 h
def R86 : RFunc :=
  ⟨(.seq (.seq (.ops [⟨some 9,.load (.tmp 1),none⟩,⟨some 10,.lenS (.tmp 9),none⟩,⟨some 11,.cmp .eql (.tmp 10) (.const (.int .i64 0)),none⟩]) (.cond (.tmp 11) (.seq (.block 0 (.loop (.seq (.seq (.ops [⟨some 12,.load (.tmp 2),none⟩,⟨some 13,.lenS (.tmp 12),none⟩,⟨some 14,.cmp .gtr (.tmp 13) (.const (.int .i64 0)),none⟩]) (.cond (.tmp 14) .skip (.exit 0))) (.block 1 (.seq (.ops [⟨some 16,.load (.tmp 2),none⟩,⟨some 17,.call (.func 87) [.tmp 16],none⟩,⟨some 15,.mov (.tmp 17),none⟩,⟨some 18,.extract (.tmp 15) 0,none⟩,⟨some 19,.extract (.tmp 15) 1,none⟩,⟨some 5,.mov (.tmp 18),none⟩,⟨some 6,.mov (.tmp 19),none⟩]) (.seq (.seq (.ops [⟨some 20,.mov (.tmp 0),none⟩,⟨some 21,.load (.tmp 2),none⟩,⟨some 22,.mov (.tmp 6),none⟩,⟨some 23,.sliceS (.tmp 21) none (some (.tmp 22)),none⟩,⟨some 24,.call (.tmp 20) [.tmp 23],none⟩,⟨some 25,.not (.tmp 24),none⟩]) (.cond (.tmp 25) .ret .skip)) (.ops [⟨some 26,.load (.tmp 2),none⟩,⟨some 27,.mov (.tmp 6),none⟩,⟨some 28,.sliceS (.tmp 26) (some (.tmp 27)) none,none⟩,⟨none,.store 1 (.tmp 2) (.tmp 28),none⟩]))))))) .ret) .skip)) (.seq (.block 2 (.loop (.block 3 (.seq (.ops [⟨some 29,.load (.tmp 2),none⟩,⟨some 30,.load (.tmp 1),none⟩,⟨some 31,.call (.func 88) [.tmp 29,.tmp 30],none⟩,⟨some 7,.mov (.tmp 31),none⟩]) (.seq (.seq (.ops [⟨some 32,.mov (.tmp 7),none⟩,⟨some 33,.cmp .lss (.tmp 32) (.const (.int .i64 0)),none⟩]) (.cond (.tmp 33) (.exit 2) .skip)) (.seq (.ops [⟨some 34,.load (.tmp 2),none⟩,⟨some 35,.mov (.tmp 7),none⟩,⟨some 36,.load (.tmp 3),none⟩,⟨some 37,.arith .add (.tmp 35) (.tmp 36),none⟩,⟨some 38,.sliceS (.tmp 34) none (some (.tmp 37)),none⟩,⟨some 8,.mov (.tmp 38),none⟩]) (.seq (.seq (.ops [⟨some 39,.mov (.tmp 0),none⟩,⟨some 40,.mov (.tmp 8),none⟩,⟨some 41,.call (.tmp 39) [.tmp 40],none⟩,⟨some 42,.not (.tmp 41),none⟩]) (.cond (.tmp 42) .ret .skip)) (.ops [⟨some 43,.load (.tmp 2),none⟩,⟨some 44,.mov (.tmp 7),none⟩,⟨some 45,.load (.tmp 1),none⟩,⟨some 46,.lenS (.tmp 45),none⟩,⟨some 47,.arith .add (.tmp 44) (.tmp 46),none⟩,⟨some 48,.sliceS (.tmp 43) (some (.tmp 47)) none,none⟩,⟨none,.store 1 (.tmp 2) (.tmp 48),none⟩])))))))) (.ops [⟨some 49,.mov (.tmp 0),none⟩,⟨some 50,.load (.tmp 2),none⟩,⟨some 51,.call (.tmp 49) [.tmp 50],none⟩]))),52,[]⟩
theorem c86 : compileFn Go.Proofs.Tryz.prog Go.Proofs.Tryz.f86 = some R86 := by kernel_rfl
theorem n86 : R86.ntmps = 52 := rfl
theorem a86 {args : List Value} {H : AHeap} {Q : Value → AHeap → Prop} (h : AWP Go.Proofs.Tryz.prog none R86.code (Fin R86 Q) (args ++ List.replicate (R86.ntmps - args.length) undef) H) : ACall Go.Proofs.Tryz.prog 86 args H Q := acall_intro mo Go.Proofs.Tryz.func86 c86 h
def R98 : RFunc :=
  ⟨(.seq (.ops [⟨some 3,.mov (.const (.bool false)),none⟩]) (.seq (.ops [⟨some 4,.mov (.tmp 0),none⟩,⟨some 5,.load (.tmp 1),none⟩,⟨some 6,.call (.func 29) [.tmp 4,.const (.int .i64 0),.tmp 5],none⟩,⟨some 7,.not (.tmp 6),none⟩,⟨some 3,.mov (.tmp 7),none⟩]) .ret)),8,[.tmp 3]⟩
theorem c98 : compileFn Go.Proofs.Tryz.prog Go.Proofs.Tryz.f98 = some R98 := by kernel_rfl
theorem n98 : R98.ntmps = 8 := rfl
theorem a98 {args : List Value} {H : AHeap} {Q : Value → AHeap → Prop} (h : AWP Go.Proofs.Tryz.prog none R98.code (Fin R98 Q) (args ++ List.replicate (R98.ntmps - args.length) undef) H) : ACall Go.Proofs.Tryz.prog 98 args H Q := acall_intro mo Go.Proofs.Tryz.func98 c98 h
def R99 : RFunc :=
  ⟨(.seq (.ops [⟨some 4,.mov (.const (.int .u32 0)),none⟩,⟨some 5,.mov (.const (.int .u32 0)),none⟩]) (.seq (.ops [⟨some 7,.mov (.tmp 0),none⟩,⟨some 8,.conv .u64 (.tmp 7),none⟩,⟨some 9,.mov (.tmp 1),none⟩,⟨some 10,.conv .u64 (.tmp 9),none⟩,⟨some 11,.arith .mul (.tmp 8) (.tmp 10),none⟩,⟨some 6,.mov (.tmp 11),none⟩]) (.seq (.ops [⟨some 12,.mov (.tmp 6),none⟩,⟨some 13,.shr (.tmp 12) (.const (.int .u64 32)),none⟩,⟨some 14,.conv .u32 (.tmp 13),none⟩,⟨some 15,.mov (.tmp 6),none⟩,⟨some 16,.conv .u32 (.tmp 15),none⟩,⟨some 4,.mov (.tmp 14),none⟩,⟨some 5,.mov (.tmp 16),none⟩]) .ret))),17,[.tmp 4,.tmp 5]⟩
theorem c99 : compileFn Go.Proofs.Tryz.prog Go.Proofs.Tryz.f99 = some R99 := by kernel_rfl
def R100 : RFunc :=
  ⟨(.seq (.ops [⟨some 4,.mov (.const (.int .u64 0)),none⟩,⟨some 5,.mov (.const (.int .u64 0)),none⟩]) (.seq (.ops [⟨some 14,.mov (.tmp 0),none⟩,⟨some 15,.band (.tmp 14) (.const (.int .u64 4294967295)),none⟩,⟨some 6,.mov (.tmp 15),none⟩]) (.seq (.ops [⟨some 16,.mov (.tmp 0),none⟩,⟨some 17,.shr (.tmp 16) (.const (.int .u64 32)),none⟩,⟨some 7,.mov (.tmp 17),none⟩]) (.seq (.ops [⟨some 18,.mov (.tmp 1),none⟩,⟨some 19,.band (.tmp 18) (.const (.int .u64 4294967295)),none⟩,⟨some 8,.mov (.tmp 19),none⟩]) (.seq (.ops [⟨some 20,.mov (.tmp 1),none⟩,⟨some 21,.shr (.tmp 20) (.const (.int .u64 32)),none⟩,⟨some 9,.mov (.tmp 21),none⟩]) (.seq (.ops [⟨some 22,.mov (.tmp 6),none⟩,⟨some 23,.mov (.tmp 8),none⟩,⟨some 24,.arith .mul (.tmp 22) (.tmp 23),none⟩,⟨some 10,.mov (.tmp 24),none⟩]) (.seq (.ops [⟨some 25,.mov (.tmp 7),none⟩,⟨some 26,.mov (.tmp 8),none⟩,⟨some 27,.arith .mul (.tmp 25) (.tmp 26),none⟩,⟨some 28,.mov (.tmp 10),none⟩,⟨some 29,.shr (.tmp 28) (.const (.int .u64 32)),none⟩,⟨some 30,.arith .add (.tmp 27) (.tmp 29),none⟩,⟨some 11,.mov (.tmp 30),none⟩]) (.seq (.ops [⟨some 31,.mov (.tmp 11),none⟩,⟨some 32,.band (.tmp 31) (.const (.int .u64 4294967295)),none⟩,⟨some 12,.mov (.tmp 32),none⟩]) (.seq (.ops [⟨some 33,.mov (.tmp 11),none⟩,⟨some 34,.shr (.tmp 33) (.const (.int .u64 32)),none⟩,⟨some 13,.mov (.tmp 34),none⟩]) (.seq (.ops [⟨some 35,.mov (.tmp 12),none⟩,⟨some 36,.mov (.tmp 6),none⟩,⟨some 37,.mov (.tmp 9),none⟩,⟨some 38,.arith .mul (.tmp 36) (.tmp 37),none⟩,⟨some 39,.arith .add (.tmp 35) (.tmp 38),none⟩,⟨some 12,.mov (.tmp 39),none⟩]) (.seq (.ops [⟨some 40,.mov (.tmp 7),none⟩,⟨some 41,.mov (.tmp 9),none⟩,⟨some 42,.arith .mul (.tmp 40) (.tmp 41),none⟩,⟨some 43,.mov (.tmp 13),none⟩,⟨some 44,.arith .add (.tmp 42) (.tmp 43),none⟩,⟨some 45,.mov (.tmp 12),none⟩,⟨some 46,.shr (.tmp 45) (.const (.int .u64 32)),none⟩,⟨some 47,.arith .add (.tmp 44) (.tmp 46),none⟩,⟨some 4,.mov (.tmp 47),none⟩]) (.seq (.ops [⟨some 48,.mov (.tmp 0),none⟩,⟨some 49,.mov (.tmp 1),none⟩,⟨some 50,.arith .mul (.tmp 48) (.tmp 49),none⟩,⟨some 5,.mov (.tmp 50),none⟩]) .ret)))))))))))),51,[.tmp 4,.tmp 5]⟩
theorem c100 : compileFn Go.Proofs.Tryz.prog Go.Proofs.Tryz.f100 = some R100 := by kernel_rfl
end Go.Lq


namespace Go.Lq
open Go
section
variable {H : AHeap}
theorem within_c (n lo hi : Int) : ACall Go.Proofs.Tryz.prog 29 [.int .i64 n,.int .i64 lo,.int .i64 hi] H fun v H' => v = .bool (decide (lo ≤ n ∧ n ≤ hi)) ∧ H' = H := by
  (refine a29 ?_; simp only [n29,List.replicate,yq,yr,yt,yu]; first | refine q1 ?_ | refine q2 ?_ | refine q6 ?_ | refine q7 ?_ | refine qh rfl ?_ | skip)
  refine yx ?_; (refine aops_until (by simp (disch:=first|exact zz|fail) only[go_sem]; with_reducible rfl) ?_); refine yx ?_
  by_cases h : lo ≤ n
  · (refine aops_until (by simp (disch:=first|exact zz|fail) only[go_sem,h]; with_reducible rfl) ?_)
    refine yx ?_
    refine fin_1 ⟨?_,rfl⟩
    simp [h]
  · (refine aops_until (by simp (disch:=first|exact zz|fail) only[go_sem,h]; with_reducible rfl) ?_)
    refine yx ?_
    refine fin_1 ⟨?_,rfl⟩
    simp [h]
theorem bwithin_c (n lo hi : Int) : ACall Go.Proofs.Tryz.prog 5 [.int .i64 n,.int .i64 lo,.int .i64 hi] H fun v H' => v = .bool (decide (lo ≤ n ∧ n ≤ hi)) ∧ H' = H := by
  (refine a5 ?_; simp only [n5,List.replicate,yq,yr,yt,yu]; first | refine q1 ?_ | refine q2 ?_ | refine q6 ?_ | refine q7 ?_ | refine qh rfl ?_ | skip)
  refine yx ?_; (refine aops_until (by simp (disch:=first|exact zz|fail) only[go_sem]; with_reducible rfl) ?_); refine yx ?_
  by_cases h : lo ≤ n
  · (refine aops_until (by simp (disch:=first|exact zz|fail) only[go_sem,h]; with_reducible rfl) ?_)
    refine yx ?_
    refine fin_1 ⟨?_,rfl⟩
    simp [h]
  · (refine aops_until (by simp (disch:=first|exact zz|fail) only[go_sem,h]; with_reducible rfl) ?_)
    refine yx ?_
    refine fin_1 ⟨?_,rfl⟩
    simp [h]
theorem isSized_c (n m : Int) (hm : -9223372036854775807 ≤ m ∧ m ≤ 9223372036854775807) : ACall Go.Proofs.Tryz.prog 48 [.int .i64 n,.int .i64 m] H fun v H' => v = .bool (decide (-m ≤ n ∧ n ≤ m)) ∧ H' = H := by
  (refine a48 ?_; simp only [n48,List.replicate,yq,yr,yt,yu]; first | refine q1 ?_ | refine q2 ?_ | refine q6 ?_ | refine q7 ?_ | refine qh rfl ?_ | skip)
  refine yx ?_; (refine aops_until (by simp (disch:=first|exact zz|fail) only[go_sem]; with_reducible rfl) ?_); refine yx ?_
  (refine aops_until (by simp (disch:=first|exact zz|fail) only[go_sem]; with_reducible rfl) ?_)
  refine aops_call_to (within_c _ _ _) ?_
  (refine aops_until (by simp (disch:=first|exact zz|fail) only[go_sem]; with_reducible rfl) ?_)
  refine yx ?_
  refine fin_1 ⟨?_,rfl⟩
  simp
theorem unless_c (b : Bool) (e : Int) : ACall Go.Proofs.Tryz.prog 32 [.bool b,.int .i64 e] H fun v H' => v = .int .i64 (if b then 0 else e) ∧ H' = H := by
  (refine a32 ?_; simp only [n32,List.replicate,yq,yr,yt,yu]; first | refine q1 ?_ | refine q2 ?_ | refine q6 ?_ | refine q7 ?_ | refine qh rfl ?_ | skip)
  refine yx ?_; (refine aops_until (by simp (disch:=first|exact zz|fail) only[go_sem]; with_reducible rfl) ?_); refine yx ?_; (refine aops_until (by simp (disch:=first|exact zz|fail) only[go_sem]; with_reducible rfl) ?_); refine yx ?_
  cases b with
  | true =>
    refine cond_t rfl ?_
    refine yx ?_; (refine aops_until (by simp (disch:=first|exact zz|fail) only[go_sem]; with_reducible rfl) ?_); refine yx ?_
    exact fin_1 ⟨rfl,rfl⟩
  | false =>
    refine cond_f rfl ?_
    refine yx ?_; (refine aops_until (by simp (disch:=first|exact zz|fail) only[go_sem]; with_reducible rfl) ?_); refine yx ?_
    exact fin_1 ⟨rfl,rfl⟩
def firstErr (l : List Int) : Int := (l.find? (fun e => decide (e ≠ 0))).getD 0
theorem firstErr_nil : firstErr [] = 0 := rfl
theorem firstErr_z (l : List Int) : firstErr (0 :: l) = firstErr l := by simp [firstErr]
theorem firstErr_e {e : Int} (h : e ≠ 0) (l : List Int) : firstErr (e :: l) = e := by simp [firstErr,h]
theorem ite_tt {α : Type} (a b : α) : (if true = true then a else b) = a := rfl
theorem ite_ft {α : Type} (a b : α) : (if false = true then a else b) = b := rfl
attribute [go_sem] firstErr_nil firstErr_z firstErr_e ite_tt ite_ft if_true if_false
theorem first_c {l : List Int} {v : Value} (hl : Ints H l v) (hb : l.length ≤ 1000000) : ACall Go.Proofs.Tryz.prog 30 [v] H fun v H' => v = .int .i64 (firstErr l) ∧ H' = H := by
  (refine a30 ?_; simp only [n30,List.replicate,yq,yr,yt,yu]; first | refine q1 ?_ | refine q2 ?_ | refine q6 ?_ | refine q7 ?_ | refine qh rfl ?_ | skip)
  refine yx ?_; (refine aops_until (by simp (disch:=first|exact zz|fail) only[go_sem]; with_reducible rfl) ?_); refine yx ?_; (refine aops_until (by simp (disch:=first|exact zz|fail) only[go_sem,hl.len,hl.idx,hl.load]; with_reducible rfl) ?_); refine yx ?_
  refine awp_loop_n [true,false,true,false,false,true,true,true,false,false,false,false,false,false,false] l.length (fun i e H' => H' = H ∧ e = [v,junk,.int .i64 0,junk,junk,v,.int .i64 l.length,.int .i64 i,junk,junk,junk,junk,junk,junk,junk] ∧ ∀ j < i,l.getD j 0 = 0) ?_ ?_
  · exact ⟨rfl,rfl,by omega⟩
  · rintro i e H' hi ⟨rfl,rfl,hp⟩
    refine yx ?_; (refine aops_until (by simp (disch:=first|exact zz|fail) only[go_sem,hl.len,hl.idx,hl.load]; with_reducible rfl) ?_); refine yx ?_
    refine cond_p rfl (fun hlt => ?_) (fun hge => ?_)
    · refine yx ?_; (refine aops_until (by simp (disch:=first|exact zz|fail) only[go_sem,hl.len,hl.idx,hl.load]; with_reducible rfl) ?_); refine yx ?_; (refine aops_until (by simp (disch:=first|exact zz|fail) only[go_sem]; with_reducible rfl) ?_); refine yx ?_
      refine cond_p rfl (fun hne => ?_) (fun heq => ?_)
      · refine yx ?_; (refine aops_until (by simp (disch:=first|exact zz|fail) only[go_sem]; with_reducible rfl) ?_); refine yx ?_
        refine fin_1 ⟨?_,rfl⟩
        unfold firstErr
        rw [find_at (d := 0) (i := i) (by omega) (fun j hj => by simpa using hp j hj) (by simpa using hne)]
        rfl
      · refine yx ?_; (refine aops_until (by simp (disch:=first|exact zz|fail) only[go_sem]; with_reducible rfl) ?_); refine yx ?_
        refine ⟨by omega,rfl,?_,fun j hj => ?_⟩
        · simp [forget]
        · by_cases h : j = i
          · subst h; simpa using heq
          · exact hp j (by omega)
    · refine yx ?_; (refine aops_until (by simp (disch:=first|exact zz|fail) only[go_sem]; with_reducible rfl) ?_); refine yx ?_
      refine fin_1 ⟨?_,rfl⟩
      unfold firstErr
      rw [find_none (d := 0) (fun j hj => by simpa using hp j (by omega))]
      rfl
def Asks (fv : Value) (p : Int → Bool) : Prop := ∀ n H,AInvoke Go.Proofs.Tryz.prog fv [.int .i64 n] H fun v H' => v = .bool (p n) ∧ H' = H
theorem indexFunc_c {l : List Int} {v fv : Value} {p : Int → Bool} (hl : Ints H l v) (hf : Asks fv p) (hb : l.length ≤ 1000000000) :
    ACall Go.Proofs.Tryz.prog 69 [v,fv] H fun v H' => (∃ i : Int,v = .int .i64 i ∧ (l.any p = decide (0 ≤ i))) ∧ H' = H := by
  (refine a69 ?_; simp only [n69,List.replicate,yq,yr,yt,yu]; first | refine q1 ?_ | refine q2 ?_ | refine q6 ?_ | refine q7 ?_ | refine qh rfl ?_ | skip)
  refine yx ?_; (refine aops_until (by simp (disch:=first|exact zz|fail) only[go_sem]; with_reducible rfl) ?_); refine yx ?_; (refine aops_until (by simp (disch:=first|exact zz|fail) only[go_sem,hl.len,hl.idx,hl.load]; with_reducible rfl) ?_); refine yx ?_
  refine awp_loop_n [true,true,false,false,true,false,true,true,true,false,false,false,false,false,false,false,false,false,false] l.length (fun i e H' => H' = H ∧ e = [v,fv,junk,junk,.int .i64 0,junk,v,.int .i64 l.length,.int .i64 i,junk,junk,junk,junk,junk,junk,junk,junk,junk,junk] ∧ ∀ j < i,p (l.getD j 0) = false) ?_ ?_
  · exact ⟨rfl,rfl,by omega⟩
  · rintro i e H' hi ⟨rfl,rfl,hp⟩
    refine yx ?_; (refine aops_until (by simp (disch:=first|exact zz|fail) only[go_sem,hl.len,hl.idx,hl.load]; with_reducible rfl) ?_); refine yx ?_
    refine cond_p rfl (fun hlt => ?_) (fun hge => ?_)
    · refine yx ?_; (refine aops_until (by simp (disch:=first|exact zz|fail) only[go_sem,hl.len,hl.idx,hl.load]; with_reducible rfl) ?_); refine yx ?_; (refine aops_until (by simp (disch:=first|exact zz|fail) only[go_sem,hl.len,hl.idx,hl.load]; with_reducible rfl) ?_)
      refine aops_call_to (hf _ _) ?_
      (refine aops_until (by simp (disch:=first|exact zz|fail) only[go_sem]; with_reducible rfl) ?_); refine yx ?_
      cases hq : p (l.getD i 0) with
      | true =>
        refine cond_t (by rw [← hq]; rfl) ?_
        refine yx ?_; (refine aops_until (by simp (disch:=first|exact zz|fail) only[go_sem]; with_reducible rfl) ?_); refine yx ?_
        refine fin_1 ⟨⟨i,rfl,?_⟩,rfl⟩
        rw [any_at (d := 0) (i := i) (by omega) hq]
        simp
      | false =>
        refine cond_f (by rw [← hq]; rfl) ?_
        refine yx ?_; (refine aops_until (by simp (disch:=first|exact zz|fail) only[go_sem]; with_reducible rfl) ?_); refine yx ?_
        refine ⟨by omega,rfl,?_,fun j hj => ?_⟩
        · simp [forget]
        · by_cases h : j = i
          · subst h; exact hq
          · exact hp j (by omega)
    · refine yx ?_; (refine aops_until (by simp (disch:=first|exact zz|fail) only[go_sem]; with_reducible rfl) ?_); refine yx ?_
      refine fin_1 ⟨⟨-1,rfl,?_⟩,rfl⟩
      rw [any_none (d := 0) fun j hj => hp j (by omega)]
      simp
theorem containsFunc_c {l : List Int} {v fv : Value} {p : Int → Bool} (hl : Ints H l v) (hf : Asks fv p) (hb : l.length ≤ 1000000000) :
    ACall Go.Proofs.Tryz.prog 46 [v,fv] H fun v H' => v = .bool (l.any p) ∧ H' = H := by
  (refine a46 ?_; simp only [n46,List.replicate,yq,yr,yt,yu]; first | refine q1 ?_ | refine q2 ?_ | refine q6 ?_ | refine q7 ?_ | refine qh rfl ?_ | skip)
  refine yx ?_; (refine aops_until (by simp (disch:=first|exact zz|fail) only[go_sem]; with_reducible rfl) ?_); refine yx ?_; (refine aops_until (by simp (disch:=first|exact zz|fail) only[go_sem]; with_reducible rfl) ?_)
  refine aops_call ((indexFunc_c hl hf hb).mono fun v1 H1 ⟨⟨i,h1,h2⟩,h3⟩ => ?_)
  subst h1; subst h3
  (refine aops_until (by simp (disch:=first|exact zz|fail) only[go_sem]; with_reducible rfl) ?_); refine yx ?_
  refine fin_1 ⟨?_,rfl⟩
  simp [h2]
def sizedB (m n : Int) : Bool := decide (-m ≤ n ∧ n ≤ m)
theorem positionsErr1_c : Asks (.func (.func 71) #[] #[]) (fun n => !sizedB 1000000 n) := fun n H => by
  show ACall _ _ _ _ _
  (refine a71 ?_; simp only [n71,List.replicate,yq,yr,yt,yu]; first | refine q1 ?_ | refine q2 ?_ | refine q6 ?_ | refine q7 ?_ | refine qh rfl ?_ | skip)
  refine yx ?_; (refine aops_until (by simp (disch:=first|exact zz|fail) only[go_sem]; with_reducible rfl) ?_); refine yx ?_; (refine aops_until (by simp (disch:=first|exact zz|fail) only[go_sem]; with_reducible rfl) ?_)
  refine aops_call_to (isSized_c _ _ (by omega)) ?_
  (refine aops_until (by simp (disch:=first|exact zz|fail) only[go_sem]; with_reducible rfl) ?_); refine yx ?_
  exact fin_1 ⟨rfl,rfl⟩
def positionsErrL (l : List Int) : Int := if 200 < l.length then 8 else if l.all (sizedB 1000000) then 0 else 2
theorem positionsErr_c {l : List Int} {v : Value} (hl : Ints H l v) (hb : l.length ≤ 1000000000) : ACall Go.Proofs.Tryz.prog 50 [v] H fun v H' => v = .int .i64 (positionsErrL l) ∧ H' = H := by
  refine ACall.drop (.int _ _) ?_
  (refine a50 ?_; simp only [n50,List.replicate,yq,yr,yt,yu]; first | refine q1 ?_ | refine q2 ?_ | refine q6 ?_ | refine q7 ?_ | refine qh rfl ?_ | skip)
  refine yx ?_; (refine aops_until (by simp (disch:=first|exact zz|fail) only[go_sem]; with_reducible rfl) ?_); refine yx ?_; (refine aops_until (by simp (disch:=first|exact zz|fail) only[go_sem]; with_reducible rfl) ?_)
  refine aops_call_to (containsFunc_c hl positionsErr1_c hb) ?_
  (refine aops_until (by simp (disch:=first|exact zz|fail) only[go_sem]; with_reducible rfl) ?_); refine yx ?_; (refine aops_until (by simp (disch:=first|exact zz|fail) only[go_sem,hl.len,hl.idx,hl.load]; with_reducible rfl) ?_)
  refine aops_call_to (unless_c _ _) ?_
  (refine aops_until (by simp (disch:=first|exact zz|fail) only[go_sem]; with_reducible rfl) ?_)
  refine aops_call_to (unless_c _ _) ?_
  (refine aops_until (by simp (disch:=first|exact zz|fail) only[go_sem]; with_reducible rfl) ?_)
  refine aops_call_to (first_c (l := [_,_]) (Ints.last (l := [_,_]) 2) (by simp)) ?_
  (refine aops_until (by simp (disch:=first|exact zz|fail) only[go_sem]; with_reducible rfl) ?_); refine yx ?_
  refine fin_1 ⟨?_,Ext.app (Ext.refl _) _⟩
  have : (l.any fun n => !sizedB 1000000 n) = !(l.all (sizedB 1000000)) := by
    rw [← List.not_all_eq_any_not]
  simp only [firstErr,positionsErrL,this]
  by_cases h1 : 200 < l.length
  · have : ¬ ((l.length : Int) ≤ 200) := by omega
    simp [h1,this]
  · have : (l.length : Int) ≤ 200 := by omega
    cases l.all (sizedB 1000000) <;> simp [h1,this]
end
end Go.Lq

namespace Go.Lq
open Go
section
variable {H : AHeap}
theorem copyInts_c {l : List Int} {v : Value} (hl : Ints H l v) (hb : l.length ≤ 1000000000) :
    ACall Go.Proofs.Tryz.prog 17 [v] H fun v H1 => v = .slice (some ⟨H.length,0,none⟩) l.length l.length ∧ H1 = H ++ [.cells true 1 (l.map (.int .i64))] := by
  refine ACall.tidyE (f := id) (sz := 1) (n := l.length) (vs := l.map (.int .i64)) wraps_id (closed_ints l) ?_
  (refine a17 ?_; simp only [n17,List.replicate,yq,yr,yt,yu]; first | refine q1 ?_ | refine q2 ?_ | refine q6 ?_ | refine q7 ?_ | refine qh rfl ?_ | skip)
  rcases hl with ⟨h1,h2⟩
  rcases h2 with ⟨rfl,hn⟩ | ⟨id,off,c,rfl,hc⟩
  · have : l = [] := List.length_eq_zero_iff.1 hn
    subst this
    have ha : appendA 1 8 (H ++ [.cells true 1 []]) (.slice (some ⟨H.length,0,none⟩) 0 0) (.slice none 0 0) = some (.slice (some ⟨H.length,0,none⟩) 0 0,H ++ [.cells true 1 []]) := rfl
    (repeat(first|refine yw ?_|((first|apply yd|apply ye);simp (disch:=first|exact zz|fail) only[go_sem,ha];with_reducible rfl)))
    exact fin_1 ⟨_,H.length,rfl,⟨_,rfl⟩,rfl,Nat.le_refl _,by simp⟩
  · by_cases hn : l.length = 0
    · have : l = [] := List.length_eq_zero_iff.1 hn
      subst this
      have ha : appendA 1 8 (H ++ [.cells true 1 []]) (.slice (some ⟨H.length,0,none⟩) 0 0) (.slice (some ⟨id,off,none⟩) ([] : List Int).length c) = some (.slice (some ⟨H.length,0,none⟩) 0 0,H ++ [.cells true 1 []]) := rfl
      (repeat(first|refine yw ?_|((first|apply yd|apply ye);simp (disch:=first|exact zz|fail) only[go_sem,ha];with_reducible rfl)))
      exact fin_1 ⟨_,H.length,rfl,⟨_,rfl⟩,rfl,Nat.le_refl _,by simp⟩
    · have ha : appendA 1 8 (H ++ [.cells true 1 []]) (.slice (some ⟨H.length, 0, none⟩) 0 0) (.slice (some ⟨id, off, none⟩) l.length c) =
          some (.slice (some ⟨(H ++ [AObj.cells true 1 []]).length,0,none⟩) l.length l.length,(H ++ [.cells true 1 []]) ++ [.cells true 1 (l.map (.int .i64))]) := by
        obtain ⟨k,hk⟩ : ∃ k,l.length = k + 1 := ⟨l.length - 1,by omega⟩
        have hc' := cellsAt_ext ⟨[AObj.cells true 1 []],rfl⟩ (hc (by omega))
        have hr : roomOk 8 (0 + l.length) = true := roomOk_of (by omega) (by omega)
        rw [hk] at hc' hr ⊢
        simp only [appendA,hc',isAtom_ints,hr,and_self,if_true]
      (repeat(first|refine yw ?_|((first|apply yd|apply ye);simp (disch:=first|exact zz|fail) only[go_sem,ha];with_reducible rfl)))
      refine fin_1 ?_
      exact ⟨_,(H ++ [AObj.cells true 1 []]).length,rfl,⟨_,List.append_assoc _ _ _⟩,rfl,by simp,by simp⟩
theorem copyInts_u {l : List Int} {v : Value} (hl : Ints H l v) (hb : l.length ≤ 1000000000) : ACall Go.Proofs.Tryz.prog 17 [v] H fun v H1 => Ints H1 l v ∧ Ext H H1 :=
  (copyInts_c hl hb).mono fun v H1 ⟨h1,h2⟩ => by subst h1; subst h2; exact ⟨Ints.last _,_,rfl⟩
theorem refPositionsErr_c {l : List Int} {v : Value} (hl : Ints H l v) (hb : l.length ≤ 1000000000) : ACall Go.Proofs.Tryz.prog 20 [v] H fun v H' => v = .int .i64 (positionsErrL l) ∧ H' = H := by
  (refine a20 ?_; simp only [n20,List.replicate,yq,yr,yt,yu]; first | refine q1 ?_ | refine q2 ?_ | refine q6 ?_ | refine q7 ?_ | refine qh rfl ?_ | skip)
  (repeat(first|refine yw ?_|((first|apply yd|apply ye);simp (disch:=first|exact zz|fail) only[go_sem,hl.len,hl.idx,hl.load];with_reducible rfl)))
  refine cond_p rfl (fun hlt => ?_) (fun hge => ?_)
  · (refine yg ?_)
    refine fin_1 ⟨?_,rfl⟩
    have : 200 < l.length := by omega
    simp [positionsErrL,this]
  · (refine yg ?_)
    have hle : ¬ 200 < l.length := by omega
    refine awp_loop_n [true,false,false,true,false,false,false,false,false,false,false,false,false,false,false,false,false,false,false] l.length (fun i e H' => H' = H ∧ e = [v,junk,junk,.int .i64 i,junk,junk,junk,junk,junk,junk,junk,junk,junk,junk,junk,junk,junk,junk,junk] ∧ ∀ j < i,sizedB 1000000 (l.getD j 0) = true) ?_ ?_
    · exact ⟨rfl,rfl,by omega⟩
    · rintro i e H' hi ⟨rfl,rfl,hp⟩
      (repeat(first|refine yw ?_|((first|apply yd|apply ye);simp (disch:=first|exact zz|fail) only[go_sem,hl.len,hl.idx,hl.load];with_reducible rfl)))
      refine cond_p rfl (fun hlt => ?_) (fun hge => ?_)
      · (repeat(first|refine yw ?_|((first|apply yd|apply ye);simp (disch:=first|exact zz|fail) only[go_sem,hl.len,hl.idx,hl.load];with_reducible rfl)))
        refine aops_call_to (bwithin_c _ _ _) ?_
        (refine yg ?_)
        refine cond_n rfl (fun hne => ?_) (fun heq => ?_)
        · (refine yg ?_)
          refine fin_1 ⟨?_,rfl⟩
          have : l.all (sizedB 1000000) = false := all_false (d := 0) (i := i) (by omega) (by simpa [sizedB] using hne)
          simp [positionsErrL,this,hle]
        · (refine yg ?_)
          refine ⟨by omega,rfl,by simp [forget],fun j hj => ?_⟩
          by_cases h : j = i
          · subst h; simpa [sizedB] using heq
          · exact hp j (by omega)
      · (refine yg ?_)
        refine fin_1 ⟨?_,rfl⟩
        have : l.all (sizedB 1000000) = true := all_true (d := 0) fun j hj => hp j (by omega)
        simp [positionsErrL,this,hle]
theorem bints_c {a b : List Int} {va vb : Value} (ha : Ints H a va) (hb : Ints H b vb) (hl : a.length ≤ 1000000000) (_ : b.length ≤ 1000000000) : ACall Go.Proofs.Tryz.prog 25 [va,vb] H fun v H' => v = .bool (decide (a = b)) ∧ H' = H := by
  (refine a25 ?_; simp only [n25,List.replicate,yq,yr,yt,yu]; first | refine q1 ?_ | refine q2 ?_ | refine q6 ?_ | refine q7 ?_ | refine qh rfl ?_ | skip)
  (repeat(first|refine yw ?_|((first|apply yd|apply ye);simp (disch:=first|exact zz|fail) only[go_sem,ha.len,ha.idx,ha.load,hb.len,hb.idx,hb.load];with_reducible rfl)))
  refine cond_p rfl (fun hlt => ?_) (fun hge => ?_)
  · (refine yg ?_)
    refine fin_1 ⟨?_,rfl⟩
    have : a ≠ b := fun h => hlt (by rw [h])
    simp [this]
  · (refine yg ?_)
    have hlen : a.length = b.length := by omega
    refine awp_loop_n [true,true,false,false,false,true,false,false,false,false,false,false,false,false,false,false,false,false,false,false,false,false,false,false,false,false] a.length (fun i e H' => H' = H ∧ e = [va,vb,junk,junk,junk,.int .i64 i,junk,junk,junk,junk,junk,junk,junk,junk,junk,junk,junk,junk,junk,junk,junk,junk,junk,junk,junk,junk] ∧ ∀ j < i,a.getD j 0 = b.getD j 0) ?_ ?_
    · exact ⟨rfl,rfl,by omega⟩
    · rintro i e H' hi ⟨rfl,rfl,hp⟩
      (repeat(first|refine yw ?_|((first|apply yd|apply ye);simp (disch:=first|exact zz|fail) only[go_sem,ha.len,ha.idx,ha.load,hb.len,hb.idx,hb.load];with_reducible rfl)))
      refine cond_p rfl (fun hlt => ?_) (fun hge => ?_)
      · (repeat(first|refine yw ?_|((first|apply yd|apply ye);simp (disch:=first|exact zz|fail) only[go_sem,ha.len,ha.idx,ha.load,hb.len,hb.idx,hb.load];with_reducible rfl)))
        refine cond_p rfl (fun hne => ?_) (fun heq => ?_)
        · (refine yg ?_)
          refine fin_1 ⟨?_,rfl⟩
          have : a ≠ b := fun h => hne (by rw [h])
          simp [this]
        · (refine yg ?_)
          refine ⟨by omega,rfl,by simp [forget],fun j hj => ?_⟩
          by_cases h : j = i
          · subst h; simpa using heq
          · exact hp j (by omega)
      · (refine yg ?_)
        refine fin_1 ⟨?_,rfl⟩
        have : a = b := ext_getD (d := 0) hlen fun j hj => hp j (by omega)
        simp [this]
end
theorem firstD {P : Program} {G : AHeap} {f : FuncId} {args : List Value} {v : Value} (h : ACall P f args G fun v1 H1 => v1 = v ∧ H1 = G) : ACall P f args G fun v1 H1 => v1 = v ∧ H1 = G ++ [] :=
  h.mono fun _ _ ⟨a,b⟩ => ⟨a,by simp [b]⟩
theorem sizedB_t {m n : Int} (h : -m ≤ n ∧ n ≤ m) : sizedB m n = true := by simpa [sizedB] using h
end Go.Lq

namespace Go.Lq
open Go
def Sized (m : Int) (l : List Int) : Prop := ∀ i : Nat,-m ≤ l.getD i 0 ∧ l.getD i 0 ≤ m
theorem sized_of {m : Int} (hm : 0 ≤ m) {l : List Int} (h : l.all (sizedB m) = true) : Sized m l := fun i => by
  by_cases hi : i < l.length
  · simpa [sizedB] using all_getD (d := 0) h hi
  · rw [List.getD_eq_getElem?_getD,List.getElem?_eq_none (by omega)]
    simp; omega
theorem sized_pos {l : List Int} (h : positionsErrL l = 0) : Sized 1000000 l ∧ l.length ≤ 200 := by
  unfold positionsErrL at h
  split at h
  · cases h
  · split at h
    · rename_i h1 h2; exact ⟨sized_of (by omega) h2,by omega⟩
    · cases h
def velGo : List Int → List Int
  | a :: b :: r => (b - a) :: velGo (b :: r)
  | _ => []
theorem velGo_step {l : List Int} {i : Nat} (h : i + 1 < l.length) : velGo (l.drop i) = (l.getD (i + 1) 0 - l.getD i 0) :: velGo (l.drop (i + 1)) := by
  rw [drop_getD (d := 0) (show i < l.length by omega),drop_getD (d := 0) h]
  rfl
theorem velGo_end {l : List Int} {i : Nat} (h : l.length ≤ i + 1) : velGo (l.drop i) = [] := by
  have : (l.drop i).length ≤ 1 := by simp; omega
  match l.drop i,this with
  | [],_ => rfl
  | [a],_ => rfl
def velL (l : List Int) : List Int × Int := if positionsErrL l = 0 then (if l = [] then ([],10) else (velGo l,0)) else ([],positionsErrL l)
theorem velL_err {l : List Int} (h : (velL l).2 ≠ 0) : (velL l).1 = [] := by
  unfold velL at *
  split
  · split
    · rfl
    · rename_i h1 h2; simp [h1,h2] at h
  · rfl
theorem velL_ok {l : List Int} (h : (velL l).2 = 0) : positionsErrL l = 0 ∧ l ≠ [] ∧ velL l = (velGo l,0) := by
  unfold velL at *
  by_cases h1 : positionsErrL l = 0
  · by_cases h2 : l = []
    · rw [if_pos h1,if_pos h2] at h; cases h
    · exact ⟨h1,h2,by rw [if_pos h1,if_neg h2]⟩
  · rw [if_neg h1] at h; exact absurd h h1
def posGo : List Int → List Int → Int → List Int × Int
  | [],out,_ => (out,0)
  | v :: r,out,c => if sizedB 2000000 v then (if sizedB 1000000 (c + v) then posGo r (out ++ [c + v]) (c + v) else ([],23)) else ([],2)
def positionsL (start : Int) (v : List Int) : List Int × Int :=
  if sizedB 1000000 start then (if v.length < 200 then posGo v [start] start else ([],8)) else ([],2)
section
variable {H : AHeap}
theorem velocities_c {l : List Int} {v : Value} (hl : Ints H l v) (hb : l.length ≤ 1000000000) : ACall Go.Proofs.Tryz.prog 21 [v] H (IntsRes H (velL l).1 (velL l).2) := by
  refine ACall.intsE ?_
  (refine a21 ?_; simp only [n21,List.replicate,yq,yr,yt,yu]; first | refine q1 ?_ | refine q2 ?_ | refine q6 ?_ | refine q7 ?_ | refine qh rfl ?_ | skip)
  (refine yg ?_)
  refine aops_call_to (positionsErr_c hl hb) ?_
  (repeat(first|refine yw ?_|((first|apply yd|apply ye);simp (disch:=first|exact zz|fail) only[go_sem,hl.len,hl.idx,hl.load];with_reducible rfl)))
  refine aops_call_to (unless_c _ _) ?_
  (refine yg ?_)
  refine aops_call_to (first_c (l := [_,_]) (Ints.last (l := [_,_]) 2) (by simp)) ?_
  have hfe : firstErr [positionsErrL l,if decide (0 < (l.length : Int)) = true then 0 else 10] = (velL l).2 := by
    unfold firstErr velL
    by_cases h1 : positionsErrL l = 0
    · by_cases h2 : l = []
      · subst h2; simp [h1]
      · have : 0 < l.length := List.length_pos_iff.2 h2
        simp [h1,h2,this]
    · simp [h1]
  rw [hfe]
  (refine yg ?_)
  refine cond_p rfl (fun hne => ?_) (fun heq => ?_)
  · (refine yg ?_)
    have : (velL l).1 = [] := velL_err hne
    rw [this]
    exact fin_2 ⟨_,rfl,Ext.app (Ext.refl _) _,OwnI.nil _ _⟩
  · obtain ⟨h1,h2,h3⟩ := velL_ok (Decidable.not_not.1 heq)
    rw [h3]
    have hpos : 0 < l.length := List.length_pos_iff.2 h2
    have hs := (sized_pos h1).1
    have ht := hl.rest (lo := 1) (by omega)
    (repeat(first|refine yw ?_|((first|apply yd|apply ye);simp (disch:=first|exact zz|fail) only[go_sem,hl.len,hl.idx,hl.load,ht.len,ht.idx,ht.load,Sl.from hl,show (1 : Int).toNat = 1 from rfl];with_reducible rfl)))
    rw [List.length_drop]
    refine awp_loop_n [true,false,false,false,false,true,false,false,false,false,false,false,false,false,false,false,false,false,false,false,true,true,true,false,false,false,false,false,false,false,false,false,false,false,false,false,false,false] (l.length - 1) (fun i e H1 => ∃ out v1,e = [v,junk,junk,junk,junk,v1,junk,junk,junk,junk,junk,junk,junk,junk,junk,junk,junk,junk,junk,junk,fromV 1 v 1,.int .i64 ((l.length - 1 : Nat) : Int),.int .i64 i,junk,junk,junk,junk,junk,junk,junk,junk,junk,junk,junk,junk,junk,junk,junk] ∧ OwnI H H1 out v1 ∧ Ext H H1 ∧ out.length = i ∧ out ++ velGo (l.drop i) = velGo l) ?_ ?_
    · exact ⟨[],_,by simp [forget],OwnI.nil _ _,Ext.app (Ext.refl _) _,rfl,rfl⟩
    · rintro i e H1 hi ⟨out,v1,rfl,ho,hx,hlen,hv⟩
      (refine yg ?_)
      refine cond_p rfl (fun hlt => ?_) (fun hge => ?_)
      · have s1 := hs i
        have s2 := hs (1 + i)
        have hg : (l.drop 1).getD i 0 = l.getD (1 + i) 0 := by simp [List.getD_eq_getElem?_getD,Nat.add_comm]
        have hl1 : i < (l.drop 1).length := by simp; omega
        (repeat(first|refine yw ?_|((first|apply yd|apply ye);simp (disch:=first|exact zz|fail) only[go_sem,hl.len,hl.idx,hl.load,ht.len,ht.idx,ht.load,hg];with_reducible rfl)))
        (repeat(first|refine yw ?_|((first|apply yd|apply ye);simp (disch:=first|exact zz|fail) only[go_sem,hl.len,hl.idx,hl.load,ht.len,ht.idx,ht.load,hg,ho.push (by omega)];with_reducible rfl)))
        refine ⟨by omega,_,_,?_,ho.pushed hx _,ho.ext hx _,by simp [hlen],?_⟩
        · simp [forget]
        · rw [velGo_step (by omega),show i + 1 = 1 + i by omega] at hv
          rw [List.append_assoc,show i + 1 = 1 + i by omega]
          exact hv
      · (refine yg ?_)
        refine fin_2 ⟨_,rfl,hx,?_⟩
        rw [velGo_end (by omega),List.append_nil] at hv
        rw [← hv]
        exact ho
end
end Go.Lq

namespace Go.Lq
open Go
theorem posGo_step {v out : List Int} {c : Int} {i : Nat} (h : i < v.length) : posGo (v.drop i) out c =
    if sizedB 2000000 (v.getD i 0) then (if sizedB 1000000 (c + v.getD i 0) then posGo (v.drop (i + 1)) (out ++ [c + v.getD i 0]) (c + v.getD i 0) else ([],23)) else ([],2) := by
  rw [drop_getD (d := 0) h]; rfl
theorem posGo_end {v out : List Int} {c : Int} {i : Nat} (h : v.length ≤ i) : posGo (v.drop i) out c = (out,0) := by
  rw [drop_end h]; rfl
section
variable {H : AHeap}
theorem positions_c {l : List Int} {v : Value} {s : Int} (hl : Ints H l v) (hb : l.length ≤ 1000000000) : ACall Go.Proofs.Tryz.prog 22 [.int .i64 s,v] H (IntsRes H (positionsL s l).1 (positionsL s l).2) := by
  refine ACall.intsE ?_
  (refine a22 ?_; simp only [n22,List.replicate,yq,yr,yt,yu]; first | refine q1 ?_ | refine q2 ?_ | refine q6 ?_ | refine q7 ?_ | refine qh rfl ?_ | skip)
  (refine yg ?_)
  refine aops_call_to (isSized_c _ _ (by omega)) ?_
  (refine yg ?_)
  refine aops_call_to (unless_c _ _) ?_
  (repeat(first|refine yw ?_|((first|apply yd|apply ye);simp (disch:=first|exact zz|fail) only[go_sem,hl.len,hl.idx,hl.load];with_reducible rfl)))
  refine aops_call_to (unless_c _ _) ?_
  (refine yg ?_)
  refine aops_call_to (first_c (l := [_,_]) (Ints.last (l := [_,_]) 2) (by simp)) ?_
  by_cases hs : sizedB 1000000 s = true
  · have hs' : -1000000 ≤ s ∧ s ≤ 1000000 := by simpa [sizedB] using hs
    by_cases hlen : l.length < 200
    · have hfe : firstErr [if decide (-1000000 ≤ s ∧ s ≤ 1000000) = true then 0 else 2,if decide ((l.length : Int) < 200) = true then 0 else 8] = 0 := by
        have : (l.length : Int) < 200 := by omega
        simp [firstErr,hs',this]
      have hsp : positionsL s l = posGo l [s] s := by simp [positionsL,hs,hlen]
      rw [hfe,hsp]
      (refine yg ?_)
      refine cond_f rfl ?_
      (repeat(first|refine yw ?_|((first|apply yd|apply ye);simp (disch:=first|exact zz|fail) only[go_sem,hl.len,hl.idx,hl.load];with_reducible rfl)))
      refine awp_loop_n [true,true,false,false,false,false,false,true,false,false,false,false,false,false,false,false,false,false,false,false,false,false,false,false,false,true,true,true,false,false,false,false,false,false,false,false,false,false,false,false,false,false,false,false,false,false,false,false,false,false] l.length (fun i e H1 => ∃ out v1 c,e = [.int .i64 s,v,junk,junk,junk,junk,junk,v1,junk,junk,junk,junk,junk,junk,junk,junk,junk,junk,junk,junk,junk,junk,junk,junk,junk,v,.int .i64 l.length,.int .i64 i,junk,junk,junk,junk,junk,junk,junk,junk,junk,junk,junk,junk,junk,junk,junk,junk,junk,junk,junk,junk,junk,junk] ∧ OwnI H H1 out v1 ∧ Ext H H1 ∧ out.length = i + 1 ∧
          out.getD i 0 = c ∧ (-1000000 ≤ c ∧ c ≤ 1000000) ∧ posGo (l.drop i) out c = posGo l [s] s) ?_ ?_
      · refine ⟨[s],_,s,by simp [forget],OwnI.last (l := [s]) (by simp) (by simp),(Ext.app (Ext.app (Ext.refl _) _) _),rfl,rfl,hs',rfl⟩
      · rintro i e H1 hi ⟨out,v1,c,rfl,ho,hx,hlo,hc,hcb,hv⟩
        (refine yg ?_)
        refine cond_p rfl (fun hlt => ?_) (fun hge => ?_)
        · rw [posGo_step (by omega)] at hv
          (repeat(first|refine yw ?_|((first|apply yd|apply ye);simp (disch:=first|exact zz|fail) only[go_sem,hl.len,hl.idx,hl.load];with_reducible rfl)))
          refine aops_call_to (isSized_c _ _ (by omega)) ?_
          (refine yg ?_)
          refine cond_n rfl (fun hbad => ?_) (fun hok => ?_)
          · (refine yg ?_)
            have : sizedB 2000000 (l.getD i 0) = false := by simpa [sizedB] using hbad
            rw [this] at hv
            rw [← hv]
            exact fin_2 ⟨_,rfl,hx,OwnI.nil _ _⟩
          · have hvs : sizedB 2000000 (l.getD i 0) = true := by simpa [sizedB] using hok
            rw [hvs,if_pos rfl] at hv
            (repeat(first|refine yw ?_|((first|apply yd|apply ye);simp (disch:=first|exact zz|fail) only[go_sem,hl.len,hl.idx,hl.load,ho.ints.len,ho.ints.idx,ho.ints.load,hc];with_reducible rfl)))
            refine aops_call_to (isSized_c _ _ (by omega)) ?_
            (refine yg ?_)
            refine cond_n rfl (fun hbad => ?_) (fun hok2 => ?_)
            · (refine yg ?_)
              have : sizedB 1000000 (c + l.getD i 0) = false := by simpa [sizedB] using hbad
              rw [this] at hv
              rw [← hv]
              exact fin_2 ⟨_,rfl,hx,OwnI.nil _ _⟩
            · have hvs2 : sizedB 1000000 (c + l.getD i 0) = true := by simpa [sizedB] using hok2
              rw [hvs2,if_pos rfl] at hv
              (repeat(first|refine yw ?_|((first|apply yd|apply ye);simp (disch:=first|exact zz|fail) only[go_sem,ho.push (by omega)];with_reducible rfl)))
              refine ⟨by omega,_,_,c + l.getD i 0,?_,ho.pushed hx _,ho.ext hx _,by simp [hlo],?_,hok2,hv⟩
              · simp [forget]
              · rw [← hlo]; exact getD_append_last
        · (refine yg ?_)
          rw [posGo_end (by omega)] at hv
          rw [← hv]
          exact fin_2 ⟨_,rfl,hx,ho⟩
    · have hfe : firstErr [if decide (-1000000 ≤ s ∧ s ≤ 1000000) = true then 0 else 2,if decide ((l.length : Int) < 200) = true then 0 else 8] = 8 := by
        have : ¬ (l.length : Int) < 200 := by omega
        simp [firstErr,hs',this]
      have hsp : positionsL s l = ([],8) := by simp [positionsL,hs,hlen]
      rw [hfe,hsp]
      (refine yg ?_)
      refine cond_p rfl (fun _ => ?_) (fun h => absurd (by decide) h)
      (refine yg ?_)
      exact fin_2 ⟨_,rfl,Ext.app (Ext.refl _) _,OwnI.nil _ _⟩
  · have hs' : ¬ (-1000000 ≤ s ∧ s ≤ 1000000) := by simpa [sizedB] using hs
    have hfe : firstErr [if decide (-1000000 ≤ s ∧ s ≤ 1000000) = true then 0 else 2,if decide ((l.length : Int) < 200) = true then 0 else 8] = 2 := by
      simp [firstErr,hs']
    have hsp : positionsL s l = ([],2) := by simp [positionsL,hs]
    rw [hfe,hsp]
    (refine yg ?_)
    refine cond_p rfl (fun _ => ?_) (fun h => absurd (by decide) h)
    (refine yg ?_)
    exact fin_2 ⟨_,rfl,Ext.app (Ext.refl _) _,OwnI.nil _ _⟩
end
end Go.Lq

namespace Go.Lq
open Go
attribute [go_sem] bs_lit bs_size idxS_b sliceS_b sliceS_from sliceS_to add_b eql_b neq_b r_byteS byteS_1 eqvI_n eqvI_i neqI_n neqI_i
attribute [go_sem high] r_eqvI
attribute [go_sem] isAtom_string constOk_string fillA_str fillA_ptr isAtom_pointer constOk_ptrNil
end Go.Lq

namespace Go.Proofs
open Go.Shelf Go.Lib Go.RowKit Go.Sort
def Tryz.lays156_ren : Go.Shelf.Ren := ⟨fun | 156 => 57 | 165 => 77 | 166 => 78 | 169 => 79 | 240 => 96 | 241 => 97 | 276 => 110 | 277 => 111 | n => n,fun | 31 => 111 | 9 => 9 | 3 => 3 | 4 => 4 | 0 => 0 | 20 => 20 | 72 => 133 | 76 => 107 | 70 => 130 | 37 => 131 | 75 => 106 | 127 => 157 | 164 => 175 | 5 => 5 | 80 => 135 | n => n,fun | n => n⟩
theorem Tryz.lays156 : Go.Proofs.Lays.n156 Tryz.prog Tryz.lays156_ren := {
  mixed := by kernel_rfl
  f156 := Tryz.func57.trans (congrArg some (by kernel_rfl))
  f165 := Tryz.func77.trans (congrArg some (by kernel_rfl))
  f166 := Tryz.func78.trans (congrArg some (by kernel_rfl))
  f169 := Tryz.func79.trans (congrArg some (by kernel_rfl))
  f240 := Tryz.func96.trans (congrArg some (by kernel_rfl))
  f241 := Tryz.func97.trans (congrArg some (by kernel_rfl))
  f276 := Tryz.func110.trans (congrArg some (by kernel_rfl))
  f277 := Tryz.func111.trans (congrArg some (by kernel_rfl))
  t0 := Tryz.underlying0
  a0 := Tryz.isAgg0
  z0 := Tryz.sizeOf0
  v0 := Tryz.zeroValue0
  t3 := Tryz.underlying3
  a3 := Tryz.isAgg3
  z3 := Tryz.sizeOf3
  v3 := Tryz.zeroValue3
  t4 := Tryz.underlying4
  a4 := Tryz.isAgg4
  z4 := Tryz.sizeOf4
  v4 := Tryz.zeroValue4
  t9 := Tryz.underlying9
  a9 := Tryz.isAgg9
  z9 := Tryz.sizeOf9
  v9 := Tryz.zeroValue9
  t20 := Tryz.underlying20
  a20 := Tryz.isAgg20
  z20 := Tryz.sizeOf20
  v20 := Tryz.zeroValue20
  t31 := Tryz.underlying111
  a31 := Tryz.isAgg111
  z31 := Tryz.sizeOf111
  v31 := Tryz.zeroValue111
  t37 := Tryz.underlying131
  a37 := Tryz.isAgg131
  z37 := Tryz.sizeOf131
  v37 := Tryz.zeroValue131
  t70 := Tryz.underlying130
  a70 := Tryz.isAgg130
  z70 := Tryz.sizeOf130
  v70 := Tryz.zeroValue130
  t72 := Tryz.underlying133
  a72 := Tryz.isAgg133
  z72 := Tryz.sizeOf133
  v72 := Tryz.zeroValue133
  t75 := Tryz.underlying106
  a75 := Tryz.isAgg106
  z75 := Tryz.sizeOf106
  v75 := Tryz.zeroValue106
  t76 := Tryz.underlying107
  a76 := Tryz.isAgg107
  z76 := Tryz.sizeOf107
  v76 := Tryz.zeroValue107
  t127 := Tryz.underlying157
  a127 := Tryz.isAgg157
  z127 := Tryz.sizeOf157
  v127 := Tryz.zeroValue157
  t164 := Tryz.underlying175
  a164 := Tryz.isAgg175
  z164 := Tryz.sizeOf175
  v164 := Tryz.zeroValue175 }
theorem Tryz.Builder_Extra_156 : Builder.Extra Tryz.prog Tryz.lays156_ren := {
  sizeBuilder := by kernel_rfl
  liesBuilder := by kernel_rfl
  t5 := Tryz.underlying5
  a5 := Tryz.isAgg5
  z5 := Tryz.sizeOf5
  v5 := Tryz.zeroValue5
  infoByte := by kernel_rfl
  cellsByte := by kernel_rfl
  sizeByte := by kernel_rfl
  neB5 := by decide }
theorem Tryz.strings_Join_none (a : Option Addr) (c : Nat) (sep : ByteArray) (w : World) :
    Calls Tryz.prog 57 #[.slice a 0 c,.string sep] w fun e w' => e = .returned (.string ⟨#[]⟩) ∧ w' = w := Any.strings_Join_none Tryz.lays156 Tryz.Builder_Extra_156 a c sep w
theorem Tryz.strings_Join (bk o c : Nat) (xs : List ByteArray) (sep : ByteArray) (w : World) (hcells : ∀ (j : Nat) x,xs[j]? = some x → w.cell? ⟨bk,o + j,none⟩ = some (.string x)) (hbk : bk < w.heap.size) (hN : xs.length ≤ 140737488355328) (hcap : xs.length ≤ c) (hlen : (Lib.join (xs.map (·.data.toList)) sep.data.toList).length ≤ 140737488355328) :
    Calls Tryz.prog 57 #[.slice (some ⟨bk,o,none⟩) xs.length c,.string sep] w fun e w' => e = .returned (.string ⟨(Lib.join (xs.map (·.data.toList)) sep.data.toList).toArray⟩) ∧ Below w.heap.size w w' := Any.strings_Join Tryz.lays156 Tryz.Builder_Extra_156 bk o c xs sep w hcells hbk hN hcap hlen
def Tryz.laysM171_ren : Go.Shelf.Ren := ⟨fun | 171 => 55 | 243 => 75 | 246 => 94 | 283 => 106 | 284 => 107 | 285 => 108 | 286 => 109 | 129 => 119 | 317 => 118 | 318 => 120 | 319 => 121 | 320 => 122 | 337 => 125 | 338 => 126 | n => n,fun | 3 => 3 | 9 => 9 | 2 => 2 | 4 => 4 | 171 => 170 | 0 => 0 | 53 => 161 | 37 => 131 | 5 => 5 | 173 => 173 | 212 => 189 | 51 => 158 | 20 => 20 | 213 => 190 | 46 => 142 | 232 => 194 | 233 => 195 | n => n,fun | 17 => 6 | 18 => 7 | 19 => 8 | n => n⟩
theorem Tryz.laysM171 : Go.Proofs.LaysM.n171 Tryz.prog Tryz.laysM171_ren := {
  mixed := by kernel_rfl
  f129 := Tryz.func119.trans (congrArg some (by kernel_rfl))
  f171 := Tryz.func55.trans (congrArg some (by kernel_rfl))
  f243 := Tryz.func75.trans (congrArg some (by kernel_rfl))
  f246 := Tryz.func94.trans (congrArg some (by kernel_rfl))
  f283 := Tryz.func106.trans (congrArg some (by kernel_rfl))
  f284 := Tryz.func107.trans (congrArg some (by kernel_rfl))
  f285 := Tryz.func108.trans (congrArg some (by kernel_rfl))
  f286 := Tryz.func109.trans (congrArg some (by kernel_rfl))
  f317 := Tryz.func118.trans (congrArg some (by kernel_rfl))
  f318 := Tryz.func120.trans (congrArg some (by kernel_rfl))
  f319 := Tryz.func121.trans (congrArg some (by kernel_rfl))
  f320 := Tryz.func122.trans (congrArg some (by kernel_rfl))
  f337 := Tryz.func125.trans (congrArg some (by kernel_rfl))
  f338 := Tryz.func126.trans (congrArg some (by kernel_rfl))
  t0 := Tryz.underlying0
  a0 := Tryz.isAgg0
  z0 := Tryz.sizeOf0
  v0 := Tryz.zeroValue0
  t2 := Tryz.underlying2
  a2 := Tryz.isAgg2
  z2 := Tryz.sizeOf2
  v2 := Tryz.zeroValue2
  t3 := Tryz.underlying3
  a3 := Tryz.isAgg3
  z3 := Tryz.sizeOf3
  v3 := Tryz.zeroValue3
  t4 := Tryz.underlying4
  a4 := Tryz.isAgg4
  z4 := Tryz.sizeOf4
  v4 := Tryz.zeroValue4
  t5 := Tryz.underlying5
  a5 := Tryz.isAgg5
  z5 := Tryz.sizeOf5
  v5 := Tryz.zeroValue5
  t9 := Tryz.underlying9
  a9 := Tryz.isAgg9
  z9 := Tryz.sizeOf9
  v9 := Tryz.zeroValue9
  t20 := Tryz.underlying20
  a20 := Tryz.isAgg20
  z20 := Tryz.sizeOf20
  v20 := Tryz.zeroValue20
  t37 := Tryz.underlying131
  a37 := Tryz.isAgg131
  z37 := Tryz.sizeOf131
  v37 := Tryz.zeroValue131
  t46 := Tryz.underlying142
  a46 := Tryz.isAgg142
  z46 := Tryz.sizeOf142
  v46 := Tryz.zeroValue142
  t51 := Tryz.underlying158
  a51 := Tryz.isAgg158
  z51 := Tryz.sizeOf158
  v51 := Tryz.zeroValue158
  t53 := Tryz.underlying161
  a53 := Tryz.isAgg161
  z53 := Tryz.sizeOf161
  v53 := Tryz.zeroValue161
  t171 := Tryz.underlying170
  a171 := Tryz.isAgg170
  z171 := Tryz.sizeOf170
  v171 := Tryz.zeroValue170
  t173 := Tryz.underlying173
  a173 := Tryz.isAgg173
  z173 := Tryz.sizeOf173
  v173 := Tryz.zeroValue173
  t212 := Tryz.underlying189
  a212 := Tryz.isAgg189
  z212 := Tryz.sizeOf189
  v212 := Tryz.zeroValue189
  t213 := Tryz.underlying190
  a213 := Tryz.isAgg190
  z213 := Tryz.sizeOf190
  t232 := Tryz.underlying194
  a232 := Tryz.isAgg194
  z232 := Tryz.sizeOf194
  v232 := Tryz.zeroValue194
  t233 := Tryz.underlying195
  a233 := Tryz.isAgg195
  z233 := Tryz.sizeOf195
  v233 := Tryz.zeroValue195
  g17 := by kernel_rfl
  g18 := by kernel_rfl
  g19 := by kernel_rfl
  i0 := by kernel_rfl
  i2 := by kernel_rfl
  i3 := by kernel_rfl
  i4 := by kernel_rfl
  i5 := by kernel_rfl
  i9 := by kernel_rfl
  i20 := by kernel_rfl
  i37 := by kernel_rfl
  i46 := by kernel_rfl
  i51 := by kernel_rfl
  i53 := by kernel_rfl
  i171 := by kernel_rfl
  i173 := by kernel_rfl
  i212 := by kernel_rfl
  i232 := by kernel_rfl
  i233 := by kernel_rfl
  m17 := by kernel_rfl
  m18 := by kernel_rfl
  m19 := by kernel_rfl }
theorem Tryz.strconv_Itoa (n : Int) (h0 : -9223372036854775808 ≤ n) (h1 : n ≤ 9223372036854775807) (w : World) (htab : Lib.TabIs Tryz.prog w "internal/strconv.uint64pow10" .u64 Lib.pow10Tab) :
    Calls Tryz.prog 55 #[.int .i64 n] w fun e w' => e = .returned (.string ⟨(Lib.itoa n).toArray⟩) ∧ ∃ k os,w' = grow (w.drewN k) os := Any.strconv_Itoa Tryz.laysM171 n h0 h1 w htab
def Tryz.laysC172_ren : Go.Shelf.Ren := ⟨fun | 172 => 54 | 244 => 73 | 245 => 74 | 247 => 89 | 279 => 90 | 280 => 91 | 281 => 92 | 282 => 93 | 287 => 103 | 316 => 104 | 171 => 55 | 205 => 105 | 321 => 116 | 322 => 117 | 243 => 75 | 246 => 94 | 283 => 106 | 284 => 107 | 285 => 108 | 286 => 109 | 129 => 119 | 317 => 118 | 318 => 120 | 319 => 121 | 320 => 122 | 337 => 125 | 338 => 126 | n => n,fun | 9 => 9 | 3 => 3 | 75 => 106 | 76 => 107 | 4 => 4 | 5 => 5 | 167 => 149 | 37 => 131 | 0 => 0 | 85 => 150 | 2 => 2 | 168 => 152 | 53 => 161 | 175 => 164 | 46 => 142 | 210 => 168 | 127 => 157 | 145 => 187 | 143 => 185 | 21 => 21 | 171 => 170 | 173 => 173 | 212 => 189 | 51 => 158 | 20 => 20 | 213 => 190 | 232 => 194 | 233 => 195 | 80 => 135 | n => n,fun | 15 => 1 | 16 => 2 | 17 => 6 | 18 => 7 | 19 => 8 | n => n⟩
theorem Tryz.laysC172 : Go.Proofs.LaysC.n172 Tryz.prog Tryz.laysC172_ren := {
  mixed := by kernel_rfl
  f129 := Tryz.func119.trans (congrArg some (by kernel_rfl))
  f171 := Tryz.func55.trans (congrArg some (by kernel_rfl))
  f172 := Tryz.func54.trans (congrArg some (by kernel_rfl))
  f205 := Tryz.func105.trans (congrArg some (by kernel_rfl))
  f243 := Tryz.func75.trans (congrArg some (by kernel_rfl))
  f244 := Tryz.func73.trans (congrArg some (by kernel_rfl))
  f245 := Tryz.func74.trans (congrArg some (by kernel_rfl))
  f246 := Tryz.func94.trans (congrArg some (by kernel_rfl))
  f247 := Tryz.func89.trans (congrArg some (by kernel_rfl))
  f279 := Tryz.func90.trans (congrArg some (by kernel_rfl))
  f280 := Tryz.func91.trans (congrArg some (by kernel_rfl))
  f281 := Tryz.func92.trans (congrArg some (by kernel_rfl))
  f282 := Tryz.func93.trans (congrArg some (by kernel_rfl))
  f283 := Tryz.func106.trans (congrArg some (by kernel_rfl))
  f284 := Tryz.func107.trans (congrArg some (by kernel_rfl))
  f285 := Tryz.func108.trans (congrArg some (by kernel_rfl))
  f286 := Tryz.func109.trans (congrArg some (by kernel_rfl))
  f287 := Tryz.func103.trans (congrArg some (by kernel_rfl))
  f316 := Tryz.func104.trans (congrArg some (by kernel_rfl))
  f317 := Tryz.func118.trans (congrArg some (by kernel_rfl))
  f318 := Tryz.func120.trans (congrArg some (by kernel_rfl))
  f319 := Tryz.func121.trans (congrArg some (by kernel_rfl))
  f320 := Tryz.func122.trans (congrArg some (by kernel_rfl))
  f321 := Tryz.func116.trans (congrArg some (by kernel_rfl))
  f322 := Tryz.func117.trans (congrArg some (by kernel_rfl))
  f337 := Tryz.func125.trans (congrArg some (by kernel_rfl))
  f338 := Tryz.func126.trans (congrArg some (by kernel_rfl))
  t0 := Tryz.underlying0
  a0 := Tryz.isAgg0
  z0 := Tryz.sizeOf0
  v0 := Tryz.zeroValue0
  t2 := Tryz.underlying2
  a2 := Tryz.isAgg2
  z2 := Tryz.sizeOf2
  v2 := Tryz.zeroValue2
  t3 := Tryz.underlying3
  a3 := Tryz.isAgg3
  z3 := Tryz.sizeOf3
  v3 := Tryz.zeroValue3
  t4 := Tryz.underlying4
  a4 := Tryz.isAgg4
  z4 := Tryz.sizeOf4
  v4 := Tryz.zeroValue4
  t5 := Tryz.underlying5
  a5 := Tryz.isAgg5
  z5 := Tryz.sizeOf5
  v5 := Tryz.zeroValue5
  t9 := Tryz.underlying9
  a9 := Tryz.isAgg9
  z9 := Tryz.sizeOf9
  v9 := Tryz.zeroValue9
  t20 := Tryz.underlying20
  a20 := Tryz.isAgg20
  z20 := Tryz.sizeOf20
  v20 := Tryz.zeroValue20
  t21 := Tryz.underlying21
  a21 := Tryz.isAgg21
  z21 := Tryz.sizeOf21
  v21 := Tryz.zeroValue21
  t37 := Tryz.underlying131
  a37 := Tryz.isAgg131
  z37 := Tryz.sizeOf131
  v37 := Tryz.zeroValue131
  t46 := Tryz.underlying142
  a46 := Tryz.isAgg142
  z46 := Tryz.sizeOf142
  v46 := Tryz.zeroValue142
  t51 := Tryz.underlying158
  a51 := Tryz.isAgg158
  z51 := Tryz.sizeOf158
  v51 := Tryz.zeroValue158
  t53 := Tryz.underlying161
  a53 := Tryz.isAgg161
  z53 := Tryz.sizeOf161
  v53 := Tryz.zeroValue161
  t75 := Tryz.underlying106
  a75 := Tryz.isAgg106
  z75 := Tryz.sizeOf106
  v75 := Tryz.zeroValue106
  t76 := Tryz.underlying107
  a76 := Tryz.isAgg107
  z76 := Tryz.sizeOf107
  v76 := Tryz.zeroValue107
  t85 := Tryz.underlying150
  a85 := Tryz.isAgg150
  z85 := Tryz.sizeOf150
  v85 := Tryz.zeroValue150
  t127 := Tryz.underlying157
  a127 := Tryz.isAgg157
  z127 := Tryz.sizeOf157
  v127 := Tryz.zeroValue157
  t143 := Tryz.underlying185
  a143 := Tryz.isAgg185
  z143 := Tryz.sizeOf185
  v143 := Tryz.zeroValue185
  t145 := Tryz.underlying187
  a145 := Tryz.isAgg187
  z145 := Tryz.sizeOf187
  v145 := Tryz.zeroValue187
  t167 := Tryz.underlying149
  a167 := Tryz.isAgg149
  z167 := Tryz.sizeOf149
  v167 := Tryz.zeroValue149
  t168 := Tryz.underlying152
  a168 := Tryz.isAgg152
  z168 := Tryz.sizeOf152
  v168 := Tryz.zeroValue152
  t171 := Tryz.underlying170
  a171 := Tryz.isAgg170
  z171 := Tryz.sizeOf170
  v171 := Tryz.zeroValue170
  t173 := Tryz.underlying173
  a173 := Tryz.isAgg173
  z173 := Tryz.sizeOf173
  v173 := Tryz.zeroValue173
  t175 := Tryz.underlying164
  a175 := Tryz.isAgg164
  z175 := Tryz.sizeOf164
  v175 := Tryz.zeroValue164
  t210 := Tryz.underlying168
  a210 := Tryz.isAgg168
  z210 := Tryz.sizeOf168
  v210 := Tryz.zeroValue168
  t212 := Tryz.underlying189
  a212 := Tryz.isAgg189
  z212 := Tryz.sizeOf189
  v212 := Tryz.zeroValue189
  t213 := Tryz.underlying190
  a213 := Tryz.isAgg190
  z213 := Tryz.sizeOf190
  t232 := Tryz.underlying194
  a232 := Tryz.isAgg194
  z232 := Tryz.sizeOf194
  v232 := Tryz.zeroValue194
  t233 := Tryz.underlying195
  a233 := Tryz.isAgg195
  z233 := Tryz.sizeOf195
  v233 := Tryz.zeroValue195
  g15 := by kernel_rfl
  g16 := by kernel_rfl
  g17 := by kernel_rfl
  g18 := by kernel_rfl
  g19 := by kernel_rfl
  t80 := Tryz.underlying135
  a80 := Tryz.isAgg135
  z80 := Tryz.sizeOf135
  v80 := Tryz.zeroValue135
  i0 := by kernel_rfl
  i2 := by kernel_rfl
  i3 := by kernel_rfl
  i4 := by kernel_rfl
  i5 := by kernel_rfl
  i9 := by kernel_rfl
  i20 := by kernel_rfl
  i21 := by kernel_rfl
  i37 := by kernel_rfl
  i46 := by kernel_rfl
  i51 := by kernel_rfl
  i53 := by kernel_rfl
  i75 := by kernel_rfl
  i76 := by kernel_rfl
  i80 := by kernel_rfl
  i85 := by kernel_rfl
  i127 := by kernel_rfl
  i143 := by kernel_rfl
  i145 := by kernel_rfl
  i167 := by kernel_rfl
  i168 := by kernel_rfl
  i171 := by kernel_rfl
  i173 := by kernel_rfl
  i175 := by kernel_rfl
  i210 := by kernel_rfl
  i212 := by kernel_rfl
  i232 := by kernel_rfl
  i233 := by kernel_rfl
  m15 := by kernel_rfl
  m16 := by kernel_rfl
  m17 := by kernel_rfl
  m18 := by kernel_rfl
  m19 := by kernel_rfl
  c0 := by kernel_rfl
  c2 := by kernel_rfl
  c3 := by kernel_rfl
  c4 := by kernel_rfl
  c5 := by kernel_rfl
  c9 := by kernel_rfl
  c20 := by kernel_rfl
  c21 := by kernel_rfl
  c37 := by kernel_rfl
  c46 := by kernel_rfl
  c51 := by kernel_rfl
  c53 := by kernel_rfl
  c75 := by kernel_rfl
  c76 := by kernel_rfl
  c80 := by kernel_rfl
  c85 := by kernel_rfl
  c127 := by kernel_rfl
  c143 := by kernel_rfl
  c145 := by kernel_rfl
  c167 := by kernel_rfl
  c168 := by kernel_rfl
  c171 := by kernel_rfl
  c173 := by kernel_rfl
  c175 := by kernel_rfl
  c210 := by kernel_rfl
  c212 := by kernel_rfl
  c213 := by kernel_rfl
  c232 := by kernel_rfl
  c233 := by kernel_rfl }
theorem Tryz.strconv_Atoi_ok (s : ByteArray) (hmax : s.size ≤ 9223372036854775806) (v : Int) (h : Lib.atoiAll s.data.toList = .ok v) (w : World) :
    Calls Tryz.prog 54 #[.string s] w fun e w' => e = .returned (.tuple #[.int .i64 v,.nilIface]) ∧ (w' = w ∨ ∃ t,w' = Lib.bytesWorld w 5 t) := Any.strconv_Atoi_ok Tryz.laysC172 s hmax v h w
theorem Tryz.strconv_Atoi_syntax (s : ByteArray) (hlim : s.size ≤ 281474976710656) (h : Lib.atoiAll s.data.toList = Lib.atoiAll []) (ev : Value) (w : World) (hv : w.cell? ⟨1,0,none⟩ = some ev) (hev : ev = .nilIface ∨ ∃ te pe,ev = .iface te pe) :
    Calls Tryz.prog 54 #[.string s] w fun e w' => ∃ N,e = .returned (.tuple #[.int .i64 (0),.iface 152 (.pointer (some ⟨N,0,none⟩))]) ∧ w.heap.size ≤ N ∧ w'.heap[N]? = some (.cells #[.string ⟨#[65,116,111,105]⟩,.string s,ev] 168 (0,0)) ∧ Below w.heap.size w w' := Any.strconv_Atoi_syntax Tryz.laysC172 s hlim h ev w hv hev
theorem Tryz.strconv_Atoi_range (s : ByteArray) (hlim : s.size ≤ 281474976710656) (h : Lib.atoiAll s.data.toList = .range) (ev : Value) (w : World) (hv : w.cell? ⟨2,0,none⟩ = some ev) (hev : ev = .nilIface ∨ ∃ te pe,ev = .iface te pe) :
    Calls Tryz.prog 54 #[.string s] w fun e w' => ∃ N,e = .returned (.tuple #[.int .i64 (Lib.atoiSat s.data.toList),.iface 152 (.pointer (some ⟨N,0,none⟩))]) ∧ w.heap.size ≤ N ∧ w'.heap[N]? = some (.cells #[.string ⟨#[65,116,111,105]⟩,.string s,ev] 168 (0,0)) ∧ Below w.heap.size w w' := Any.strconv_Atoi_range Tryz.laysC172 s hlim h ev w hv hev
def Tryz.lays143_ren : Go.Shelf.Ren := ⟨fun | 143 => 88 | 219 => 102 | 217 => 112 | 225 => 113 | 224 => 114 | 267 => 115 | 266 => 123 | 314 => 124 | n => n,fun | 9 => 9 | 3 => 3 | 4 => 4 | 5 => 5 | 46 => 142 | 146 => 159 | 51 => 158 | n => n,fun | 1 => 5 | n => n⟩
theorem Tryz.lays143 : Go.Proofs.Lays.n143 Tryz.prog Tryz.lays143_ren := {
  mixed := by kernel_rfl
  f143 := Tryz.func88.trans (congrArg some (by kernel_rfl))
  f217 := Tryz.func112.trans (congrArg some (by kernel_rfl))
  f219 := Tryz.func102.trans (congrArg some (by kernel_rfl))
  f224 := Tryz.func114.trans (congrArg some (by kernel_rfl))
  f225 := Tryz.func113.trans (congrArg some (by kernel_rfl))
  f266 := Tryz.func123.trans (congrArg some (by kernel_rfl))
  f267 := Tryz.func115.trans (congrArg some (by kernel_rfl))
  f314 := Tryz.func124.trans (congrArg some (by kernel_rfl))
  t3 := Tryz.underlying3
  a3 := Tryz.isAgg3
  z3 := Tryz.sizeOf3
  v3 := Tryz.zeroValue3
  t4 := Tryz.underlying4
  a4 := Tryz.isAgg4
  z4 := Tryz.sizeOf4
  v4 := Tryz.zeroValue4
  t5 := Tryz.underlying5
  a5 := Tryz.isAgg5
  z5 := Tryz.sizeOf5
  v5 := Tryz.zeroValue5
  t9 := Tryz.underlying9
  a9 := Tryz.isAgg9
  z9 := Tryz.sizeOf9
  v9 := Tryz.zeroValue9
  t46 := Tryz.underlying142
  a46 := Tryz.isAgg142
  z46 := Tryz.sizeOf142
  v46 := Tryz.zeroValue142
  t51 := Tryz.underlying158
  a51 := Tryz.isAgg158
  z51 := Tryz.sizeOf158
  v51 := Tryz.zeroValue158
  t146 := Tryz.underlying159
  a146 := Tryz.isAgg159
  z146 := Tryz.sizeOf159
  v146 := Tryz.zeroValue159
  g1 := by kernel_rfl }
theorem Tryz.strings_Index (s sub : ByteArray) (m : Int) (w : World) (hs : s.size < 4294967281) (hm : w.cell? ⟨5,0,none⟩ = some (.int .i64 m)) :
    Calls Tryz.prog 88 #[.string s,.string sub] w fun e w' => e = .returned (.int .i64 (Lib.index s.data.toList sub.data.toList)) ∧ w' = w := Any.strings_Index Tryz.lays143 s sub m w hs hm
def Tryz.lays101_ren : Go.Shelf.Ren := ⟨fun | 101 => 56 | 208 => 76 | 206 => 95 | n => n,fun | 9 => 9 | 4 => 4 | 3 => 3 | n => n,fun | n => n⟩
theorem Tryz.lays101 : Go.Proofs.Lays.n101 Tryz.prog Tryz.lays101_ren := {
  mixed := by kernel_rfl
  f101 := Tryz.func56.trans (congrArg some (by kernel_rfl))
  f206 := Tryz.func95.trans (congrArg some (by kernel_rfl))
  f208 := Tryz.func76.trans (congrArg some (by kernel_rfl))
  t3 := Tryz.underlying3
  a3 := Tryz.isAgg3
  z3 := Tryz.sizeOf3
  v3 := Tryz.zeroValue3
  t4 := Tryz.underlying4
  a4 := Tryz.isAgg4
  z4 := Tryz.sizeOf4
  v4 := Tryz.zeroValue4
  t9 := Tryz.underlying9
  a9 := Tryz.isAgg9
  z9 := Tryz.sizeOf9
  v9 := Tryz.zeroValue9 }
theorem Tryz.strings_TrimPrefix (s p : ByteArray) (w : World) :
    Calls Tryz.prog 56 #[.string s,.string p] w fun e w' => e = .returned (.string ⟨(Lib.trimPrefix s.data.toList p.data.toList).toArray⟩) ∧ w' = w := Any.strings_TrimPrefix Tryz.lays101 s p w
end Go.Proofs

namespace Go.Lq
open Go
open Go.Proofs
def tabRow : Array Value := (Lib.pow10Tab.map fun z => Value.int .u64 z).toArray
structure StrH (H : AHeap) : Prop where
  max : ∃ m,H[5]? = some (.cells false 1 [.int .i64 m])
  tab : H[6]? = some (.row tabRow)
  syn : ∃ t,H[1]? = some (.cells false 1 [.iface t junk])
  rng : ∃ t,H[2]? = some (.cells false 1 [.iface t junk])
theorem ext_at {H H' : AHeap} (hx : Ext H H') {i : Nat} {c : AObj} (h : H[i]? = some c) : H'[i]? = some c := by rw [hx.get (List.getElem?_eq_some_iff.1 h).1]; exact h
theorem StrH.ext {H H' : AHeap} (h : StrH H) (hx : Ext H H') : StrH H' := by
  obtain ⟨m,h1⟩ := h.max
  obtain ⟨t,h2⟩ := h.syn
  obtain ⟨u,h3⟩ := h.rng
  exact ⟨⟨m,ext_at hx h1⟩,ext_at hx h.tab,⟨t,ext_at hx h2⟩,⟨u,ext_at hx h3⟩⟩
section
variable {H : AHeap} {base : Nat} {β : Beta} {w : World}
theorem gTab : Go.Proofs.Tryz.prog.globalNamed "internal/strconv.uint64pow10" = some 6 := by kernel_rfl
theorem gSize : Go.Proofs.Tryz.prog.globals.size = 9 := by kernel_rfl
theorem Inj.glob_cell (hi : Inj Go.Proofs.Tryz.prog β H base w) {g : Nat} (hg : g < 9) {v : Value} (h : H[g]? = some (.cells false 1 [v])) : ∃ cv,w.cell? ⟨g,0,none⟩ = some cv ∧ VR β v cv := by
  obtain ⟨r,hr⟩ := hi.glob g (by rw [gSize]; exact hg)
  have := cell_rel (k := 0) (v := v) hi hr (by unfold cellAt; rw [h]; rfl)
  simpa using this
theorem StrH.maxLen (hs : StrH H) (hi : Inj Go.Proofs.Tryz.prog β H base w) : ∃ m,w.cell? ⟨5,0,none⟩ = some (.int .i64 m) := by
  obtain ⟨m,h⟩ := hs.max
  obtain ⟨cv,h1,h2⟩ := hi.glob_cell (by decide) h
  exact ⟨m,by rw [h1,h2.num]⟩
theorem StrH.errCell (hs : StrH H) (hi : Inj Go.Proofs.Tryz.prog β H base w) {g : Nat} (hg : g = 1 ∨ g = 2) : ∃ te pe,w.cell? ⟨g,0,none⟩ = some (.iface te pe) := by
  rcases hg with rfl | rfl
  · obtain ⟨t,h⟩ := hs.syn
    obtain ⟨cv,h1,h2⟩ := hi.glob_cell (by decide) h
    obtain ⟨v',rfl⟩ := h2.iface_inv
    exact ⟨t,v',h1⟩
  · obtain ⟨t,h⟩ := hs.rng
    obtain ⟨cv,h1,h2⟩ := hi.glob_cell (by decide) h
    obtain ⟨v',rfl⟩ := h2.iface_inv
    exact ⟨t,v',h1⟩
theorem StrH.tabIs (hs : StrH H) (hi : Inj Go.Proofs.Tryz.prog β H base w) : Lib.TabIs Go.Proofs.Tryz.prog w "internal/strconv.uint64pow10" .u64 Lib.pow10Tab := by
  obtain ⟨r,hr⟩ := hi.glob 6 (by rw [gSize]; decide)
  have ho := hi.obj 6 _ hr
  rw [hs.tab] at ho
  obtain ⟨t,fz,h⟩ := ho
  unfold Lib.TabIs World.var?
  rw [gTab]
  simp only [Option.bind_some,h]
  rfl
theorem cargs1 {v : Value} {cargs : Array Value} (h : cargs.toList = [v]) : cargs = #[v] := by rw [← Array.toArray_toList (xs := cargs),h]
theorem cargs2 {v u : Value} {cargs : Array Value} (h : cargs.toList = [v,u]) : cargs = #[v,u] := by rw [← Array.toArray_toList (xs := cargs),h]
theorem bs_mk (l : List UInt8) : (⟨l.toArray⟩ : ByteArray) = bs l := rfl
theorem itoa_c (hs : StrH H) {n : Int} (h0 : -9223372036854775808 ≤ n) (h1 : n ≤ 9223372036854775807) : ACall Go.Proofs.Tryz.prog 55 [.int .i64 n] H fun v H' => v = .string (bs (Lib.itoa n)) ∧ H' = H := by
  refine ACall.of_calls ⟨_,Go.Proofs.Tryz.func55,by kernel_rfl,by kernel_rfl⟩ fun base β w cargs hi hv => ?_
  obtain ⟨y,e,h⟩ := VRs.one hv
  obtain rfl := h.num
  rw [cargs1 e]
  refine (Go.Proofs.Tryz.strconv_Itoa n h0 h1 w (hs.tabIs hi)).mono fun e' w' ⟨he,k,os,hw⟩ => ?_
  subst hw
  exact ⟨_,_,he,.string _,⟨rfl,rfl⟩,Lib.below_grow _ _ (Nat.le_refl _) _ _⟩
theorem VR.pair {β : Beta} {a b c d : Value} (h1 : VR β a c) (h2 : VR β b d) : VR β (.tuple #[a,b]) (.tuple #[c,d]) := .tuple rfl fun i v v' e1 e2 => by
  match i with
  | 0 => simp at e1 e2; subst e1; subst e2; exact h1
  | 1 => simp at e1 e2; subst e1; subst e2; exact h2
  | i + 2 => simp at e1
def AtoiRes (l : List UInt8) (v : Value) : Prop := (∃ n,Lib.atoiAll l = .ok n ∧ v = .tuple #[.int .i64 n,.nilIface]) ∨ ((∀ n,Lib.atoiAll l ≠ .ok n) ∧ ∃ n t,v = .tuple #[.int .i64 n,.iface t junk])
theorem atoi_c (hs : StrH H) {l : List UInt8} (hl : l.length ≤ 281474976710656) : ACall Go.Proofs.Tryz.prog 54 [.string (bs l)] H fun v H' => AtoiRes l v ∧ H' = H := by
  refine ACall.of_calls ⟨_,Go.Proofs.Tryz.func54,by kernel_rfl,by kernel_rfl⟩ fun base β w cargs hi hv => ?_
  obtain ⟨y,e,h⟩ := VRs.one hv
  obtain rfl := h.str
  rw [cargs1 e]
  have hsz : (bs l).size ≤ 281474976710656 := by rw [bs_size]; exact hl
  cases hr : Lib.atoiAll l
  · rename_i n
    refine (Go.Proofs.Tryz.strconv_Atoi_ok (bs l) (by omega) n (by rw [bs_data]; exact hr) w).mono fun e' w' ⟨he,hw⟩ => ?_
    refine ⟨_,.tuple #[.int .i64 n,.nilIface],he,VR.pair (.int _ _) .nilIface,⟨.inl ⟨n,hr,rfl⟩,rfl⟩,?_⟩
    rcases hw with rfl | ⟨t,rfl⟩
    · exact RowKit.Below.refl _ _
    · exact Lib.bytesWorld_below _ _ _
  · obtain ⟨te,pe,hc⟩ := hs.errCell hi (.inl rfl)
    refine (Go.Proofs.Tryz.strconv_Atoi_syntax (bs l) hsz (by rw [bs_data]; exact hr) _ w hc (.inr ⟨te,pe,rfl⟩)).mono fun e' w' ⟨N,he,_,_,hb⟩ => ?_
    exact ⟨_,.tuple #[.int .i64 0,.iface _ junk],he,VR.pair (.int _ _) (.iface _ (.junk _)),⟨.inr ⟨fun n h => (by rw [hr] at h; cases h),_,_,rfl⟩,rfl⟩,hb⟩
  · obtain ⟨te,pe,hc⟩ := hs.errCell hi (.inr rfl)
    refine (Go.Proofs.Tryz.strconv_Atoi_range (bs l) hsz (by rw [bs_data]; exact hr) _ w hc (.inr ⟨te,pe,rfl⟩)).mono fun e' w' ⟨N,he,_,_,hb⟩ => ?_
    exact ⟨_,.tuple #[.int .i64 _,.iface _ junk],he,VR.pair (.int _ _) (.iface _ (.junk _)),⟨.inr ⟨fun n h => (by rw [hr] at h; cases h),_,_,rfl⟩,rfl⟩,hb⟩
theorem index_c (hs : StrH H) {l m : List UInt8} (hl : l.length ≤ 281474976) : ACall Go.Proofs.Tryz.prog 88 [.string (bs l),.string (bs m)] H fun v H' => v = .int .i64 (Lib.index l m) ∧ H' = H := by
  refine ACall.of_calls ⟨_,Go.Proofs.Tryz.func88,by kernel_rfl,by kernel_rfl⟩ fun base β w cargs hi hv => ?_
  obtain ⟨y,y',e,h,h'⟩ := VRs.two hv
  obtain rfl := h.str
  obtain rfl := h'.str
  rw [cargs2 e]
  obtain ⟨k,hm⟩ := hs.maxLen hi
  refine (Go.Proofs.Tryz.strings_Index (bs l) (bs m) k w (by rw [bs_size]; omega) hm).mono fun e' w' ⟨he,hw⟩ => ?_
  subst hw
  simp only [bs_data] at he
  exact ⟨_,_,he,.int _ _,⟨rfl,rfl⟩,RowKit.Below.refl _ _⟩
theorem join_c {ll : List (List UInt8)} {m : List UInt8} {v : Value} (ht : Txts H ll v) (hn : ll.length ≤ 1000000) (hl : (Lib.join ll m).length ≤ 140737488355328) : ACall Go.Proofs.Tryz.prog 57 [v,.string (bs m)] H fun v' H' =>
    v' = .string (bs (Lib.join ll m)) ∧ H' = H := by
  refine ACall.of_calls ⟨_,Go.Proofs.Tryz.func57,by kernel_rfl,by kernel_rfl⟩ fun base β w cargs hi hv => ?_
  obtain ⟨y,y',e,h,h'⟩ := VRs.two hv
  obtain rfl := h'.str
  rw [cargs2 e]
  by_cases h0 : ll.length = 0
  · obtain rfl := List.length_eq_zero_iff.1 h0
    have : ∃ a c,y = .slice a 0 c := by
      rcases ht.2 with ⟨rfl,_⟩ | ⟨id,off,c,rfl,_⟩
      · exact ⟨_,_,h.nilS⟩
      · cases h with | slice hc h0 ha => exact ⟨_,_,rfl⟩
    obtain ⟨a,c,rfl⟩ := this
    refine (Go.Proofs.Tryz.strings_Join_none a c (bs m) w).mono fun e' w' ⟨he,hw⟩ => ?_
    subst hw
    exact ⟨_,_,he,.string _,⟨rfl,rfl⟩,RowKit.Below.refl _ _⟩
  obtain ⟨id,off,c,rfl,_⟩ := ht.cell (k := 0) (by omega)
  obtain ⟨a,cap,rfl,hcap,hcc,ha⟩ := h.slice_inv
  obtain ⟨p,hp,rfl,_⟩ := ha (.inl (by omega))
  have hcells : ∀ (j : Nat) x,(ll.map bs)[j]? = some x → w.cell? ⟨p.b,p.o + off + j,none⟩ = some (.string x) := fun j x hx => by
    have hj : j < ll.length := by simpa using (List.getElem?_eq_some_iff.1 hx).1
    obtain ⟨id',off',c',e',hc⟩ := ht.cell hj
    cases e'
    obtain ⟨cv,h1,h2⟩ := cell_rel hi hp hc
    obtain rfl := h2.str
    rw [Nat.add_assoc,h1]
    simp [hj] at hx
    rw [← hx]
    simp [hj]
  have hmap : (ll.map bs).map (fun b => b.data.toList) = ll := by
    rw [List.map_map]
    exact (List.map_congr_left fun l _ => bs_data l).trans (List.map_id ll)
  have := Go.Proofs.Tryz.strings_Join p.b (p.o + off) cap (ll.map bs) (bs m) w hcells (hi.lt _ _ hp) (by simp; omega) (by simpa using hcap) (by rw [hmap,bs_data]; exact hl)
  rw [hmap,bs_data,List.length_map] at this
  refine this.mono fun e' w' ⟨he,hb⟩ => ?_
  exact ⟨_,_,he,.string _,⟨rfl,rfl⟩,hb⟩
end
end Go.Lq

namespace Go.Lq
open Go
open Go.Proofs
section
variable {H : AHeap}
theorem copyLists_c {ll : List (List Int)} {vs : List Value} {v : Value} (hL : Lists H ll vs v) (hb : ll.length ≤ 1000000) (hr : ∀ i,i < ll.length → (ll.getD i []).length ≤ 1000000) :
    ACall Go.Proofs.Tryz.prog 15 [v] H fun v' H' => OwnL H H' ll v' ∧ Ext H H' := by
  (refine a15 ?_; simp only [n15,List.replicate,yq,yr,yt,yu]; first | refine q1 ?_ | refine q2 ?_ | refine q6 ?_ | refine q7 ?_ | refine qh rfl ?_ | skip)
  (refine yg ?_)
  refine awp_loop_n [true,false,false,true,true,false,false,false,false,false,false,false,false,false,false,false,false,false,false,false] ll.length (fun i e H' => ∃ v1,e = [v,junk,junk,v1,.int .i64 i,junk,junk,junk,junk,junk,junk,junk,junk,junk,junk,junk,junk,junk,junk,junk] ∧ OwnL H H' (ll.take i) v1 ∧ Ext H H') ?_ ?_
  · exact ⟨_,by simp [forget],OwnL.nil _ _,Ext.refl _⟩
  rintro i e H1 hi ⟨v1,rfl,ho,hx⟩
  have hL1 := hL.ext hx
  (repeat(first|refine yw ?_|((first|apply yd|apply ye);simp (disch:=first|exact zz|fail) only[go_sem,hL1.len,hL1.idx,hL1.load];with_reducible rfl)))
  refine cond_p rfl (fun hlt => ?_) (fun hge => ?_)
  · have hi' : i < ll.length := by omega
    (repeat(first|refine yw ?_|((first|apply yd|apply ye);simp (disch:=first|exact zz|fail) only[go_sem,hL1.len,hL1.idx,hL1.load];with_reducible rfl)))
    refine aops_call ((copyInts_c (hL1.row hi') (by have := hr i hi'; omega)).mono fun v2 H2 h => ?_)
    obtain ⟨rfl,rfl⟩ := h
    obtain ⟨v3,H3,ha,ho3,hx3⟩ := ho.push hx (by simp; omega) (ll.getD i [])
    (repeat(first|refine yw ?_|((first|apply yd|apply ye);simp (disch:=first|exact zz|fail) only[go_sem,ha,fillA_slice,isAtom_slice];with_reducible rfl)))
    refine ⟨by omega,v3,by simp [forget],?_,hx3⟩
    rw [take_succ_getD (d := []) hi']; exact ho3
  · have hit : ll.take i = ll := List.take_of_length_le (by omega)
    rw [hit] at ho
    (refine yg ?_)
    exact fin_1 ⟨ho,hx⟩
end
end Go.Lq
