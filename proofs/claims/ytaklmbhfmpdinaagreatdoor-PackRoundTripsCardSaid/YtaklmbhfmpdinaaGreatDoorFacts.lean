/- Of each type: its zero value, its cells and its bytes; and that a region that draws may draw any order. Conditions: none. -/
import Derived.Test.YtaklmbhfmpdinaaGreatDoorKCore
import Derived.Test.YtaklmbhfmpdinaaGreatDoorProg
import Derived.KernelRfl
namespace Go.Proofs.YtaklmbhfmpdinaaGreatDoor
open Go Go.Inl
theorem mixed : Tryz.prog.follows .mixedOrders = true := by kernel_rfl
theorem info_of {P : Program} {e : TypeId} {z : Value} {sz by' : Nat} (h : (P.info? e).map (fun i => (i.zero, i.size, i.bytes)) = some (some z, sz, by')) : Info P e z sz by' := by
  cases hi : P.info? e with
  | none => simp [hi] at h
  | some i => simp only [hi, Option.map_some, Option.some.injEq, Prod.mk.injEq] at h; exact ⟨i, hi, h.1, h.2.1, h.2.2⟩
theorem info3 : Info Tryz.prog 3 (.int .i64 0) 1 8 := info_of (by kernel_rfl)
theorem info4 : Info Tryz.prog 4 (.bool false) 1 1 := info_of (by kernel_rfl)
theorem info5 : Info Tryz.prog 5 (.int .u8 0) 1 1 := info_of (by kernel_rfl)
theorem info62 : Info Tryz.prog 62 (.agg #[.int .i64 0, .int .i64 0, .int .i64 0, .int .u8 0, .slice none 0 0]) 5 56 := info_of (by kernel_rfl)
theorem info85 : Info Tryz.prog 85 (.agg #[.bool false, .int .i64 0, .int .u8 0]) 3 24 := info_of (by kernel_rfl)
theorem info93 : Info Tryz.prog 93 (.int .u32 0) 1 4 := info_of (by kernel_rfl)
end Go.Proofs.YtaklmbhfmpdinaaGreatDoor
