/- Of each type: its zero value, its cells and its bytes; and that a region that draws may draw any order. Conditions: none. -/
import Derived.Test.YtaklmbhfmpdinaaKCore
import Derived.Test.YtaklmbhfmpdinaaProg
import Derived.KernelRfl
namespace Go.Proofs.Ytaklmbhfmpdinaa
open Go Go.Inl
theorem mixed : Try.prog.follows .mixedOrders = true := by kernel_rfl
theorem info_of {P : Program} {e : TypeId} {z : Value} {sz by' : Nat} (h : (P.info? e).map (fun i => (i.zero, i.size, i.bytes)) = some (some z, sz, by')) : Info P e z sz by' := by
  cases hi : P.info? e with
  | none => simp [hi] at h
  | some i => simp only [hi, Option.map_some, Option.some.injEq, Prod.mk.injEq] at h; exact ⟨i, hi, h.1, h.2.1, h.2.2⟩
theorem info3 : Info Try.prog 3 (.int .i64 0) 1 8 := info_of (by kernel_rfl)
theorem info4 : Info Try.prog 4 (.bool false) 1 1 := info_of (by kernel_rfl)
theorem info5 : Info Try.prog 5 (.int .u8 0) 1 1 := info_of (by kernel_rfl)
theorem info35 : Info Try.prog 35 (.agg #[.int .i64 0, .int .i64 0, .int .i64 0, .int .u8 0, .slice none 0 0]) 5 56 := info_of (by kernel_rfl)
theorem info64 : Info Try.prog 64 (.agg #[.bool false, .int .i64 0, .int .u8 0]) 3 24 := info_of (by kernel_rfl)
theorem info78 : Info Try.prog 78 (.int .u32 0) 1 4 := info_of (by kernel_rfl)
end Go.Proofs.Ytaklmbhfmpdinaa
