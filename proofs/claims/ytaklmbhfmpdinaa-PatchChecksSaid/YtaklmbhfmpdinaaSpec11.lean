/- What package merge computes, as plain Lean. Conditions: none. -/
import Derived.Test.YtaklmbhfmpdinaaKSpec
namespace Go.Inl

/-! ### Marks -/
def marks (n : Nat) (f : Nat → Bool) : List Bool := (List.range n).map f
def plc (n : Nat) (f : Nat → Bool) : List Nat := (List.range n).filter f
theorem plc_succ (n : Nat) (f : Nat → Bool) : plc (n + 1) f = if f n then plc n f ++ [n] else plc n f := by
  unfold plc
  rw [List.range_succ, List.filter_append]
  cases h : f n <;> simp [h]
end Go.Inl
