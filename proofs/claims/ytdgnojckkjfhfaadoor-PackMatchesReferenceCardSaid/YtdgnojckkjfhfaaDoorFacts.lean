/- Of each type: its zero value, its cells and its bytes; and that a region that draws may draw any order. Conditions: none. -/
import Derived.Test.YtdgnojckkjfhfaaDoorKCore
import Derived.Test.YtdgnojckkjfhfaaDoorProg
import Derived.KernelRfl
namespace Go.Proofs.YtdgnojckkjfhfaaDoor
open Go Go.Inl
theorem mixed : Tryd.prog.follows .mixedOrders = true := by kernel_rfl
theorem info_of {P : Program} {e : TypeId} {z : Value} {sz by' : Nat} (h : (P.info? e).map (fun i => (i.zero, i.size, i.bytes)) = some (some z, sz, by')) : Info P e z sz by' := by
  cases hi : P.info? e with
  | none => simp [hi] at h
  | some i => simp only [hi, Option.map_some, Option.some.injEq, Prod.mk.injEq] at h; exact ⟨i, hi, h.1, h.2.1, h.2.2⟩
theorem info5 : Info Tryd.prog 5 (.int .u8 0) 1 1 := info_of (by kernel_rfl)
theorem info53 : Info Tryd.prog 53 (.agg #[.int .i64 0, .int .i64 0, .int .i64 0, .int .u8 0, .slice none 0 0]) 5 56 := info_of (by kernel_rfl)
end Go.Proofs.YtdgnojckkjfhfaaDoor
