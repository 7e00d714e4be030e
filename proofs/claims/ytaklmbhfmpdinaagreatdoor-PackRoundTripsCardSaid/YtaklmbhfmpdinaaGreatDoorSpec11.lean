/- What package merge computes, as plain Lean. Conditions: none. -/
import Derived.Test.YtaklmbhfmpdinaaGreatDoorKSpec
namespace Go.Inl

theorem snoc_ind {α : Type} {p : List α → Prop} (h0 : p []) (h1 : ∀ l a, p l → p (l ++ [a])) (l : List α) : p l := by
  have h : ∀ l : List α, p l.reverse := by
    intro l
    induction l with
    | nil => exact h0
    | cons a l ih => rw [List.reverse_cons]; exact h1 _ _ ih
  have := h l.reverse
  rwa [List.reverse_reverse] at this
/-! ### Marks -/
def marks (n : Nat) (f : Nat → Bool) : List Bool := (List.range n).map f
def plc (n : Nat) (f : Nat → Bool) : List Nat := (List.range n).filter f
theorem plc_succ (n : Nat) (f : Nat → Bool) : plc (n + 1) f = if f n then plc n f ++ [n] else plc n f := by
  unfold plc
  rw [List.range_succ, List.filter_append]
  cases h : f n <;> simp [h]
end Go.Inl
