/- That the program bears a function of the library and all that it reaches, body by body. Conditions: none. -/
import Derived.Shelf.Lays
import Derived.Test.YtaklmbhfmpdinaaGreatDoorProg
import Derived.KernelRfl
namespace Go.Proofs.YtaklmbhfmpdinaaGreatDoor
open Go Go.Shelf Go.Proofs
def lays189_ren : Go.Shelf.Ren := ⟨fun | 189 => 73 | 125 => 118 | 257 => 117 | 128 => 146 | 129 => 147 | 294 => 138 | 295 => 139 | 296 => 140 | 297 => 141 | 298 => 142 | 299 => 143 | 216 => 119 | 300 => 144 | 301 => 145 | 328 => 153 | 329 => 154 | 330 => 155 | 331 => 156 | 332 => 157 | 215 => 148 | 343 => 160 | n => n, fun | 28 => 74 | 3 => 3 | 46 => 155 | 0 => 0 | 51 => 93 | 53 => 178 | 4 => 4 | 183 => 247 | 182 => 246 | 131 => 86 | 5 => 5 | 9 => 9 | 218 => 259 | 222 => 242 | 228 => 263 | 229 => 198 | n => n, fun  | n => n⟩
theorem lays189 : Lays.n189 Tryz.prog lays189_ren where
  mixed := by kernel_rfl
  f125 := Tryz.func118.trans (congrArg some (by kernel_rfl))
  f128 := Tryz.func146.trans (congrArg some (by kernel_rfl))
  f129 := Tryz.func147.trans (congrArg some (by kernel_rfl))
  f189 := Tryz.func73.trans (congrArg some (by kernel_rfl))
  f215 := Tryz.func148.trans (congrArg some (by kernel_rfl))
  f216 := Tryz.func119.trans (congrArg some (by kernel_rfl))
  f257 := Tryz.func117.trans (congrArg some (by kernel_rfl))
  f294 := Tryz.func138.trans (congrArg some (by kernel_rfl))
  f295 := Tryz.func139.trans (congrArg some (by kernel_rfl))
  f296 := Tryz.func140.trans (congrArg some (by kernel_rfl))
  f297 := Tryz.func141.trans (congrArg some (by kernel_rfl))
  f298 := Tryz.func142.trans (congrArg some (by kernel_rfl))
  f299 := Tryz.func143.trans (congrArg some (by kernel_rfl))
  f300 := Tryz.func144.trans (congrArg some (by kernel_rfl))
  f301 := Tryz.func145.trans (congrArg some (by kernel_rfl))
  f328 := Tryz.func153.trans (congrArg some (by kernel_rfl))
  f329 := Tryz.func154.trans (congrArg some (by kernel_rfl))
  f330 := Tryz.func155.trans (congrArg some (by kernel_rfl))
  f331 := Tryz.func156.trans (congrArg some (by kernel_rfl))
  f332 := Tryz.func157.trans (congrArg some (by kernel_rfl))
  f343 := Tryz.func160.trans (congrArg some (by kernel_rfl))
  t0 := Tryz.underlying0
  a0 := Tryz.isAgg0
  z0 := Tryz.sizeOf0
  v0 := Tryz.zeroValue0
  t3 := Tryz.underlying3
  a3 := Tryz.isAgg3
  z3 := Tryz.sizeOf3
  v3 := Tryz.zeroValue3
  t4 := Tryz.underlying4
  a4 := Tryz.isAgg4
  z4 := Tryz.sizeOf4
  v4 := Tryz.zeroValue4
  t5 := Tryz.underlying5
  a5 := Tryz.isAgg5
  z5 := Tryz.sizeOf5
  v5 := Tryz.zeroValue5
  t9 := Tryz.underlying9
  a9 := Tryz.isAgg9
  z9 := Tryz.sizeOf9
  v9 := Tryz.zeroValue9
  t28 := Tryz.underlying74
  a28 := Tryz.isAgg74
  z28 := Tryz.sizeOf74
  v28 := Tryz.zeroValue74
  t46 := Tryz.underlying155
  a46 := Tryz.isAgg155
  z46 := Tryz.sizeOf155
  v46 := Tryz.zeroValue155
  t51 := Tryz.underlying93
  a51 := Tryz.isAgg93
  z51 := Tryz.sizeOf93
  v51 := Tryz.zeroValue93
  t53 := Tryz.underlying178
  a53 := Tryz.isAgg178
  z53 := Tryz.sizeOf178
  v53 := Tryz.zeroValue178
  t131 := Tryz.underlying86
  a131 := Tryz.isAgg86
  z131 := Tryz.sizeOf86
  v131 := Tryz.zeroValue86
  t182 := Tryz.underlying246
  a182 := Tryz.isAgg246
  z182 := Tryz.sizeOf246
  v182 := Tryz.zeroValue246
  t183 := Tryz.underlying247
  a183 := Tryz.isAgg247
  z183 := Tryz.sizeOf247
  v183 := Tryz.zeroValue247
  t218 := Tryz.underlying259
  a218 := Tryz.isAgg259
  z218 := Tryz.sizeOf259
  v218 := Tryz.zeroValue259
  t222 := Tryz.underlying242
  a222 := Tryz.isAgg242
  z222 := Tryz.sizeOf242
  v222 := Tryz.zeroValue242
  t228 := Tryz.underlying263
  a228 := Tryz.isAgg263
  z228 := Tryz.sizeOf263
  v228 := Tryz.zeroValue263
  t229 := Tryz.underlying198
  a229 := Tryz.isAgg198
  z229 := Tryz.sizeOf198
  v229 := Tryz.zeroValue198
end Go.Proofs.YtaklmbhfmpdinaaGreatDoor
