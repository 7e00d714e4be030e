/- Of each type: its zero value, its cells and its bytes; and that a region that draws may draw any order. Conditions: none. -/
import Derived.Test.YtgkgihnpjgbmhaaGreatDoorSq
import Derived.Test.YtgkgihnpjgbmhaaGreatDoorKCore
import Derived.Test.YtgkgihnpjgbmhaaGreatDoorProg
import Derived.KernelRfl
set_option linter.unusedSimpArgs false
set_option linter.unusedVariables false
namespace Go.Proofs.YtgkgihnpjgbmhaaGreatDoor
open Go Go.Inl
theorem mixed:Tryz.prog.follows .mixedOrders=true:=by kernel_rfl
theorem kr {P:Program}{e:TypeId}{z:Value}{sz by':Nat}(h:(P.info? e).map (fun i=>(i.zero,i.size,i.bytes))=some (some z,sz,by')):Info P e z sz by':=by
 cases hi:P.info? e with
 | none=>simp[hi]at h
 | some i=>simp only[hi,Option.map_some,Option.some.injEq,Prod.mk.injEq]at h; exact⟨i,hi,h.1,h.2.1,h.2.2⟩
theorem info3:Info Tryz.prog 3 (.ig 0) 1 8:=kr (by kernel_rfl)
theorem info4:Info Tryz.prog 4 (.bool false) 1 1:=kr (by kernel_rfl)
theorem info5:Info Tryz.prog 5 (.bg 0) 1 1:=kr (by kernel_rfl)
theorem info57:Info Tryz.prog 57 (.agg #[.ig 0,.ig 0,.ig 0,.bg 0,.sg none 0 0]) 5 56:=kr (by kernel_rfl)
theorem info59:Info Tryz.prog 59 (.agg #[.ig 0,.ig 0,.ig 0,.ig 0,.ig 0,.bg 0,.sg none 0 0]) 7 72:=kr (by kernel_rfl)
theorem info80:Info Tryz.prog 80 (.agg #[.bool false,.ig 0,.bg 0]) 3 24:=kr (by kernel_rfl)
theorem info88:Info Tryz.prog 88 (.wg 0) 1 4:=kr (by kernel_rfl)
theorem info128:Info Tryz.prog 128 (.agg #[.ig 0,.ig 0]) 2 16:=kr (by kernel_rfl)
theorem info137:Info Tryz.prog 137 (.agg #[.ig 0,.ig 0,.ig 0,.ig 0,.ig 0,.ig 0,.ig 0,.ig 0,.ig 0,.ig 0,.ig 0,.ig 0]) 12 96:=kr (by kernel_rfl)
theorem info192:Info Tryz.prog 192 (.agg #[.map none,.ig 0,.ig 0,.ig 0]) 4 32:=kr (by kernel_rfl)
end Go.Proofs.YtgkgihnpjgbmhaaGreatDoor
