/- That the program bears a function of the library and all that it reaches, body by body. Conditions: none. That the program bears a function of the library and all that it reaches, body by body. Conditions: none. slices.Sort and slices.Compact of ints, by the library's contracts. Conditions: none. -/
import Derived.Shelf.Lays
import Derived.Test.YtgkgihnpjgbmhaaGreatDoorProg
import Derived.KernelRfl
import Derived.Shelf.Lays2
import Derived.Test.YtgkgihnpjgbmhaaGreatDoorKCore3
import Derived.Shelf.Sort.Plain
import Derived.Shelf.Slices.In.SortNone
import Derived.Shelf.Slices.CompactI
set_option linter.unusedSimpArgs false
set_option linter.unusedVariables false
namespace Go.Proofs.YtgkgihnpjgbmhaaGreatDoor
open Tryz
open Go Go.Shelf Go.Proofs
def lays189_ren:Go.Shelf.Ren:=⟨fun | 189=>69 | 125=>114 | 257=>113 | 128=>142 | 129=>143 | 294=>134 | 295=>135 | 296=>136 | 297=>137 | 298=>138 | 299=>139 | 216=>115 | 300=>140 | 301=>141 | 328=>149 | 329=>150 | 330=>151 | 331=>152 | 332=>153 | 215=>144 | 343=>156 | n=>n,fun | 28=>69 | 3=>3 | 46=>152 | 0=>0 | 51=>88 | 53=>176 | 4=>4 | 183=>245 | 182=>244 | 131=>81 | 5=>5 | 9=>9 | 218=>257 | 222=>240 | 228=>261 | 229=>196 | n=>n,fun  | n=>n⟩
theorem lays189 : Lays.n189 prog lays189_ren where
 mixed:=by kernel_rfl
 f125:=func114.trans (congrArg some (by kernel_rfl))
 f128:=func142.trans (congrArg some (by kernel_rfl))
 f129:=func143.trans (congrArg some (by kernel_rfl))
 f189:=func69.trans (congrArg some (by kernel_rfl))
 f215:=func144.trans (congrArg some (by kernel_rfl))
 f216:=func115.trans (congrArg some (by kernel_rfl))
 f257:=func113.trans (congrArg some (by kernel_rfl))
 f294:=func134.trans (congrArg some (by kernel_rfl))
 f295:=func135.trans (congrArg some (by kernel_rfl))
 f296:=func136.trans (congrArg some (by kernel_rfl))
 f297:=func137.trans (congrArg some (by kernel_rfl))
 f298:=func138.trans (congrArg some (by kernel_rfl))
 f299:=func139.trans (congrArg some (by kernel_rfl))
 f300:=func140.trans (congrArg some (by kernel_rfl))
 f301:=func141.trans (congrArg some (by kernel_rfl))
 f328:=func149.trans (congrArg some (by kernel_rfl))
 f329:=func150.trans (congrArg some (by kernel_rfl))
 f330:=func151.trans (congrArg some (by kernel_rfl))
 f331:=func152.trans (congrArg some (by kernel_rfl))
 f332:=func153.trans (congrArg some (by kernel_rfl))
 f343:=func156.trans (congrArg some (by kernel_rfl))
 t0:=underlying0
 a0:=isAgg0
 z0:=sizeOf0
 v0:=zeroValue0
 t3:=ut
 a3:=xW
 z3:=xK
 v3:=Qe
 t4:=JQ
 a4:=QA
 z4:=uy
 v4:=JN
 t5:=uA
 a5:=uZ
 z5:=un
 v5:=QZ
 t9:=JG
 a9:=isAgg9
 z9:=JF
 v9:=zeroValue9
 t28:=uf
 a28:=Qz
 z28:=uE
 v28:=zeroValue69
 t46:=underlying152
 a46:=isAgg152
 z46:=sizeOf152
 v46:=zeroValue152
 t51:=uv
 a51:=QH
 z51:=uV
 v51:=JA
 t53:=QL
 a53:=isAgg176
 z53:=Je
 v53:=zeroValue176
 t131:=underlying81
 a131:=isAgg81
 z131:=sizeOf81
 v131:=zeroValue81
 t182:=underlying244
 a182:=isAgg244
 z182:=sizeOf244
 v182:=zeroValue244
 t183:=underlying245
 a183:=isAgg245
 z183:=sizeOf245
 v183:=zeroValue245
 t218:=underlying257
 a218:=isAgg257
 z218:=sizeOf257
 v218:=zeroValue257
 t222:=underlying240
 a222:=isAgg240
 z222:=Kl
 v222:=zeroValue240
 t228:=underlying261
 a228:=isAgg261
 z228:=sizeOf261
 v228:=zeroValue261
 t229:=underlying196
 a229:=isAgg196
 z229:=sizeOf196
 v229:=zeroValue196
end Go.Proofs.YtgkgihnpjgbmhaaGreatDoor
namespace Go.Proofs.YtgkgihnpjgbmhaaGreatDoor
open Tryz
open Go Go.Shelf Go.Proofs
def laysB20_ren:Go.Shelf.Ren:=⟨fun | 20=>70 | n=>n,fun | 22=>69 | 3=>3 | 4=>4 | 0=>0 | n=>n,fun  | n=>n⟩
theorem laysB20 : Lays2.n20 prog laysB20_ren where
 mixed:=by kernel_rfl
 f20:=func70.trans (congrArg some (by kernel_rfl))
 t0:=underlying0
 a0:=isAgg0
 z0:=sizeOf0
 v0:=zeroValue0
 t3:=ut
 a3:=xW
 z3:=xK
 v3:=Qe
 t4:=JQ
 a4:=QA
 z4:=uy
 v4:=JN
 t22:=uf
 a22:=Qz
 z22:=uE
 v22:=zeroValue69
 i3:=by kernel_rfl
end Go.Proofs.YtgkgihnpjgbmhaaGreatDoor
namespace Go.Proofs.YtgkgihnpjgbmhaaGreatDoor
open Tryz
open Go Go.RowKit Go.Inl
theorem sortOk:SortOk prog 69:=⟨fun b cap zs w h1 h2 h3=>Any.slices_Sort_int lays189 b 0 cap zs w h1 h2 h3,fun p cap w=>Any.slices_Sort_int_none lays189 p cap w⟩
theorem compOk:CompOk prog 70:=⟨fun b cap zs w h1 h2 h3=>Any.slices_Compact_int laysB20 b 0 cap zs w h1 h2 h3,fun p cap w=>Any.slices_Compact_int_empty laysB20 p cap w⟩
end Go.Proofs.YtgkgihnpjgbmhaaGreatDoor
