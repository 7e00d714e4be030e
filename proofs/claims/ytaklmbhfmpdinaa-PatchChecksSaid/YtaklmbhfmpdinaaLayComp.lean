/- That the program bears a function of the library and all that it reaches, body by body. Conditions: none. -/
import Derived.Shelf.Lays2
import Derived.Test.YtaklmbhfmpdinaaProg
import Derived.KernelRfl
namespace Go.Proofs.Ytaklmbhfmpdinaa
open Go Go.Shelf Go.Proofs
def laysB20_ren : Go.Shelf.Ren := ⟨fun | 20 => 34 | n => n, fun | 22 => 52 | 3 => 3 | 4 => 4 | 0 => 0 | n => n, fun  | n => n⟩
theorem laysB20 : Lays2.n20 Try.prog laysB20_ren where
  mixed := by kernel_rfl
  f20 := Try.func34.trans (congrArg some (by kernel_rfl))
  t0 := Try.underlying0
  a0 := Try.isAgg0
  z0 := Try.sizeOf0
  v0 := Try.zeroValue0
  t3 := Try.underlying3
  a3 := Try.isAgg3
  z3 := Try.sizeOf3
  v3 := Try.zeroValue3
  t4 := Try.underlying4
  a4 := Try.isAgg4
  z4 := Try.sizeOf4
  v4 := Try.zeroValue4
  t22 := Try.underlying52
  a22 := Try.isAgg52
  z22 := Try.sizeOf52
  v22 := Try.zeroValue52
  i3 := by kernel_rfl
end Go.Proofs.Ytaklmbhfmpdinaa
