/- That the program bears a function of the library and all that it reaches, body by body. Conditions: none. -/
import Derived.Shelf.Lays2
import Derived.Test.YtaklmbhfmpdinaaGreatProg
import Derived.KernelRfl
set_option linter.unusedSimpArgs false
set_option linter.unusedVariables false
namespace Go.Proofs.YtaklmbhfmpdinaaGreat
open Tryz
open Go Go.Shelf Go.Proofs
def laysB20_ren : Go.Shelf.Ren := ⟨fun | 20 => 57 | n => n, fun | 22 => 68 | 3 => 3 | 4 => 4 | 0 => 0 | n => n, fun  | n => n⟩
theorem laysB20 : Lays2.n20 prog laysB20_ren where
 mixed := by kernel_rfl
 f20 := func57.trans (congrArg some (by kernel_rfl))
 t0 := underlying0
 a0 := isAgg0
 z0 := sizeOf0
 v0 := zeroValue0
 t3 := underlying3
 a3 := isAgg3
 z3 := sizeOf3
 v3 := zeroValue3
 t4 := underlying4
 a4 := isAgg4
 z4 := sizeOf4
 v4 := zeroValue4
 t22 := underlying68
 a22 := isAgg68
 z22 := sizeOf68
 v22 := zeroValue68
 i3 := by kernel_rfl
end Go.Proofs.YtaklmbhfmpdinaaGreat
