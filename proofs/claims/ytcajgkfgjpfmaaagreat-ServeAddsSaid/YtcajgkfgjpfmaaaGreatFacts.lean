/- Of each type: its zero value, its cells and its bytes; and that a region that draws may draw any order. Conditions: none. -/
import Derived.Test.YtcajgkfgjpfmaaaGreatKCore
import Derived.Test.YtcajgkfgjpfmaaaGreatProg
import Derived.KernelRfl
set_option linter.unusedSimpArgs false
set_option linter.unusedVariables false
namespace Go.Proofs.YtcajgkfgjpfmaaaGreat
open Go Go.Inl
theorem mixed:Tryz.prog.follows .mixedOrders=true:=by kernel_rfl
theorem qs {P:Program}{e:TypeId}{z:Value}{sz by':Nat}(h:(P.info? e).map (fun i=>(i.zero,i.size,i.bytes))=some (some z,sz,by')):Info P e z sz by':=by
 cases hi:P.info? e with
 | none=>simp[hi]at h
 | some i=>simp only[hi,Option.map_some,Option.some.injEq,Prod.mk.injEq]at h; exact⟨i,hi,h.1,h.2.1,h.2.2⟩
theorem info3:Info Tryz.prog 3 (.int .i64 0) 1 8:=qs (by kernel_rfl)
theorem info5:Info Tryz.prog 5 (.int .u8 0) 1 1:=qs (by kernel_rfl)
theorem info46:Info Tryz.prog 46 (.agg #[.bool false,.int .i64 0,.int .i64 0,.slice none 0 0]) 4 48:=qs (by kernel_rfl)
theorem info60:Info Tryz.prog 60 (.agg #[.int .i64 0,.int .i64 0,.int .i64 0,.int .i64 0,.int .i64 0,.int .i64 0,.int .i64 0,.int .i64 0]) 8 64:=qs (by kernel_rfl)
theorem info102:Info Tryz.prog 102 (.agg #[.int .i64 0,.int .i64 0,.int .i64 0,.int .u8 0,.slice none 0 0]) 5 56:=qs (by kernel_rfl)
theorem info114:Info Tryz.prog 114 (.agg #[.slice none 0 0,.bool false,.int .i64 0,.int .i64 0,.slice none 0 0]) 5 72:=qs (by kernel_rfl)
theorem info122:Info Tryz.prog 122 (.agg #[.bool false,.int .i64 0,.int .u8 0]) 3 24:=qs (by kernel_rfl)
theorem info161:Info Tryz.prog 161 (.agg #[.slice none 0 0,.int .i64 0,.bool false,.bool false]) 4 40:=qs (by kernel_rfl)
theorem info274:Info Tryz.prog 274 (.agg #[.int .i64 0,.int .i64 0,.int .i64 0,.int .i64 0,.int .i64 0,.int .i64 0,.int .i64 0,.int .i64 0,.int .i64 0,.int .i64 0,.int .i64 0,.int .i64 0]) 12 96:=qs (by kernel_rfl)
end Go.Proofs.YtcajgkfgjpfmaaaGreat
