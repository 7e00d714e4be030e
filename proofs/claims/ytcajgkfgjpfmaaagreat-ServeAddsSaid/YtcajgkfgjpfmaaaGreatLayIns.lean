/- That the program bears a function of the library and all that it reaches, body by body. Conditions: none. -/
import Derived.Test.YtcajgkfgjpfmaaaGreatAl
import Derived.Shelf.Lays2
import Derived.Test.YtcajgkfgjpfmaaaGreatProg
import Derived.KernelRfl
set_option linter.unusedSimpArgs false
set_option linter.unusedVariables false
namespace Go.Proofs.YtcajgkfgjpfmaaaGreat
open Tryz
open Go Go.Shelf Go.Proofs
def laysB21_ren:Go.Shelf.Ren:=⟨fun | 21=>81 | 27=>118 | 28=>119 | 35=>145 | 39=>168 | n=>n,fun | 22=>31 | 3=>3 | 4=>4 | 0=>0 | n=>n,fun  | n=>n⟩
theorem laysB21 : Lays2.n21 prog laysB21_ren where
 mixed:=by kernel_rfl
 f21:=func81.trans (congrArg some (by kernel_rfl))
 f27:=func118.trans (congrArg some (by kernel_rfl))
 f28:=func119.trans (congrArg some (by kernel_rfl))
 f35:=func145.trans (congrArg some (by kernel_rfl))
 f39:=func168.trans (congrArg some (by kernel_rfl))
 t0:=underlying0
 a0:=isAgg0
 z0:=sizeOf0
 v0:=zeroValue0
 t3:=Qg
 a3:=uj
 z3:=xX
 v3:=QA
 t4:=JE
 a4:=QG
 z4:=uC
 v4:=zeroValue4
 t22:=ua
 a22:=uF
 z22:=uo
 v22:=Zn
 i3:=by kernel_rfl
end Go.Proofs.YtcajgkfgjpfmaaaGreat
