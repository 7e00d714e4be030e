/- Of each type: its zero value, its cells and its bytes; and that a region that draws may draw any order. Conditions: none. -/
import Derived.Test.YtaklmbhfmpdinaaGreatKCore
import Derived.Test.YtaklmbhfmpdinaaGreatProg
import Derived.KernelRfl
set_option linter.unusedSimpArgs false
set_option linter.unusedVariables false
namespace Go.Proofs.YtaklmbhfmpdinaaGreat
open Go Go.Inl
theorem mixed : Tryz.prog.follows .mixedOrders = true := by kernel_rfl
theorem kd {P : Program} {e : TypeId} {z : Value} {sz by' : Nat} (h : (P.info? e).map (fun i => (i.zero, i.size, i.bytes)) = some (some z, sz, by')) : Info P e z sz by' := by
 cases hi : P.info? e with
 | none => simp [hi] at h
 | some i => simp only [hi, Option.map_some, Option.some.injEq, Prod.mk.injEq] at h; exact ⟨i, hi, h.1, h.2.1, h.2.2⟩
theorem info3 : Info Tryz.prog 3 (.int .i64 0) 1 8 := kd (by kernel_rfl)
theorem info4 : Info Tryz.prog 4 (.bool false) 1 1 := kd (by kernel_rfl)
theorem info5 : Info Tryz.prog 5 (.int .u8 0) 1 1 := kd (by kernel_rfl)
theorem info53 : Info Tryz.prog 53 (.agg #[.int .i64 0, .int .i64 0, .int .i64 0, .int .u8 0, .slice none 0 0]) 5 56 := kd (by kernel_rfl)
theorem info55 : Info Tryz.prog 55 (.agg #[.int .i64 0, .int .i64 0]) 2 16 := kd (by kernel_rfl)
theorem info58 : Info Tryz.prog 58 (.int .u32 0) 1 4 := kd (by kernel_rfl)
theorem info80 : Info Tryz.prog 80 (.agg #[.bool false, .int .i64 0, .int .u8 0]) 3 24 := kd (by kernel_rfl)
theorem info125 : Info Tryz.prog 125 (.agg #[.int .i64 0, .int .i64 0, .int .i64 0, .int .i64 0, .int .i64 0, .int .i64 0, .int .i64 0, .int .i64 0, .int .i64 0, .int .i64 0, .int .i64 0, .int .i64 0]) 12 96 := kd (by kernel_rfl)
theorem info166 : Info Tryz.prog 166 (.agg #[.int .i64 0, .int .i64 0, .int .i64 0, .int .i64 0]) 4 32 := kd (by kernel_rfl)
end Go.Proofs.YtaklmbhfmpdinaaGreat
