/- That the program bears a function of the library and all that it reaches, body by body. Conditions: none. -/
import Derived.Shelf.Lays
import Derived.Test.YtaklmbhfmpdinaaGreatProg
import Derived.KernelRfl
set_option linter.unusedSimpArgs false
set_option linter.unusedVariables false
namespace Go.Proofs.YtaklmbhfmpdinaaGreat
open Tryz
open Go Go.Shelf Go.Proofs
def lays189_ren : Go.Shelf.Ren := ⟨fun | 189 => 56 | 125 => 89 | 257 => 88 | 128 => 119 | 129 => 120 | 294 => 111 | 295 => 112 | 296 => 113 | 297 => 114 | 298 => 115 | 299 => 116 | 216 => 90 | 300 => 117 | 301 => 118 | 328 => 124 | 329 => 125 | 330 => 126 | 331 => 127 | 332 => 128 | 215 => 121 | 343 => 129 | n => n, fun | 28 => 68 | 3 => 3 | 46 => 93 | 0 => 0 | 51 => 58 | 53 => 187 | 4 => 4 | 183 => 180 | 182 => 179 | 131 => 81 | 5 => 5 | 9 => 9 | 218 => 190 | 222 => 175 | 228 => 195 | 229 => 154 | n => n, fun  | n => n⟩
theorem lays189 : Lays.n189 prog lays189_ren where
 mixed := by kernel_rfl
 f125 := func89.trans (congrArg some (by kernel_rfl))
 f128 := func119.trans (congrArg some (by kernel_rfl))
 f129 := func120.trans (congrArg some (by kernel_rfl))
 f189 := func56.trans (congrArg some (by kernel_rfl))
 f215 := func121.trans (congrArg some (by kernel_rfl))
 f216 := func90.trans (congrArg some (by kernel_rfl))
 f257 := func88.trans (congrArg some (by kernel_rfl))
 f294 := func111.trans (congrArg some (by kernel_rfl))
 f295 := func112.trans (congrArg some (by kernel_rfl))
 f296 := func113.trans (congrArg some (by kernel_rfl))
 f297 := func114.trans (congrArg some (by kernel_rfl))
 f298 := func115.trans (congrArg some (by kernel_rfl))
 f299 := func116.trans (congrArg some (by kernel_rfl))
 f300 := func117.trans (congrArg some (by kernel_rfl))
 f301 := func118.trans (congrArg some (by kernel_rfl))
 f328 := func124.trans (congrArg some (by kernel_rfl))
 f329 := func125.trans (congrArg some (by kernel_rfl))
 f330 := func126.trans (congrArg some (by kernel_rfl))
 f331 := func127.trans (congrArg some (by kernel_rfl))
 f332 := func128.trans (congrArg some (by kernel_rfl))
 f343 := func129.trans (congrArg some (by kernel_rfl))
 t0 := underlying0
 a0 := isAgg0
 z0 := sizeOf0
 v0 := zeroValue0
 t3 := underlying3
 a3 := isAgg3
 z3 := sizeOf3
 v3 := zeroValue3
 t4 := underlying4
 a4 := isAgg4
 z4 := sizeOf4
 v4 := zeroValue4
 t5 := underlying5
 a5 := isAgg5
 z5 := sizeOf5
 v5 := zeroValue5
 t9 := underlying9
 a9 := isAgg9
 z9 := sizeOf9
 v9 := zeroValue9
 t28 := underlying68
 a28 := isAgg68
 z28 := sizeOf68
 v28 := zeroValue68
 t46 := underlying93
 a46 := isAgg93
 z46 := sizeOf93
 v46 := zeroValue93
 t51 := underlying58
 a51 := isAgg58
 z51 := sizeOf58
 v51 := zeroValue58
 t53 := underlying187
 a53 := isAgg187
 z53 := sizeOf187
 v53 := zeroValue187
 t131 := underlying81
 a131 := isAgg81
 z131 := sizeOf81
 v131 := zeroValue81
 t182 := underlying179
 a182 := isAgg179
 z182 := sizeOf179
 v182 := zeroValue179
 t183 := underlying180
 a183 := isAgg180
 z183 := sizeOf180
 v183 := zeroValue180
 t218 := underlying190
 a218 := isAgg190
 z218 := sizeOf190
 v218 := zeroValue190
 t222 := underlying175
 a222 := isAgg175
 z222 := sizeOf175
 v222 := zeroValue175
 t228 := underlying195
 a228 := isAgg195
 z228 := sizeOf195
 v228 := zeroValue195
 t229 := underlying154
 a229 := isAgg154
 z229 := sizeOf154
 v229 := zeroValue154
end Go.Proofs.YtaklmbhfmpdinaaGreat
