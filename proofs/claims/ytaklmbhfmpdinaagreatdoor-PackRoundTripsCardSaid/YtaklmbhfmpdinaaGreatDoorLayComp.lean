/- That the program bears a function of the library and all that it reaches, body by body. Conditions: none. -/
import Derived.Shelf.Lays2
import Derived.Test.YtaklmbhfmpdinaaGreatDoorProg
import Derived.KernelRfl
namespace Go.Proofs.YtaklmbhfmpdinaaGreatDoor
open Go Go.Shelf Go.Proofs
def laysB20_ren : Go.Shelf.Ren := ⟨fun | 20 => 74 | n => n, fun | 22 => 74 | 3 => 3 | 4 => 4 | 0 => 0 | n => n, fun  | n => n⟩
theorem laysB20 : Lays2.n20 Tryz.prog laysB20_ren where
  mixed := by kernel_rfl
  f20 := Tryz.func74.trans (congrArg some (by kernel_rfl))
  t0 := Tryz.underlying0
  a0 := Tryz.isAgg0
  z0 := Tryz.sizeOf0
  v0 := Tryz.zeroValue0
  t3 := Tryz.underlying3
  a3 := Tryz.isAgg3
  z3 := Tryz.sizeOf3
  v3 := Tryz.zeroValue3
  t4 := Tryz.underlying4
  a4 := Tryz.isAgg4
  z4 := Tryz.sizeOf4
  v4 := Tryz.zeroValue4
  t22 := Tryz.underlying74
  a22 := Tryz.isAgg74
  z22 := Tryz.sizeOf74
  v22 := Tryz.zeroValue74
  i3 := by kernel_rfl
end Go.Proofs.YtaklmbhfmpdinaaGreatDoor
