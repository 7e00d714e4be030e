/- The arguments of the laws over patches read as plain data: raw patches, raw symbols. Conditions: none. -/
import Derived.Test.YtaklmbhfmpdinaaGreatArgs
import Derived.Test.YtaklmbhfmpdinaaGreatKRef6
import Derived.KernelRfl
namespace Go.Proofs.YtaklmbhfmpdinaaGreat
open Go Go.Inl Go.RowKit Go.ChangeShapes Go.WideShapes
section
variable {H : Type} {enc : TypeId × Value → H} {w : World}
theorem list4 {l : List Int} (h : l.length = 4) : ∃ a b c d, l = [a, b, c, d] := by
  match l, h with
  | [a, b, c, d], _ => exact ⟨a, b, c, d, rfl⟩
theorem list2v {α : Type} {l : List α} (h : l.length = 2) : ∃ a b, l = [a, b] := by
  match l, h with
  | [a, b], _ => exact ⟨a, b, rfl⟩
instance : Inhabited Q4 := ⟨⟨0, 0, 0, 0⟩⟩
end
end Go.Proofs.YtaklmbhfmpdinaaGreat
