/- The arguments of the laws over code read as plain data. Conditions: none. -/
import Derived.Test.YtaklmbhfmpdinaaGreatRead6
set_option linter.unusedSimpArgs false
set_option linter.unusedVariables false
namespace Go.Proofs.YtaklmbhfmpdinaaGreat
open Tryz
open Go Go.Inl Go.RowKit Go.ChangeShapes Go.WideShapes
section
variable {H : Type} {enc : TypeId × Value → H} {w : World}
theorem opens_r2s : Opens enc prog w 26 (fun cs => ∃ a cap, ∃ l : List Q4, cs = [.slice a l.length cap] ∧ RFl (memI w) 4 q4C (.slice a l.length cap) l ∧ ∀ q ∈ l, q.wf) := by
 refine jC (zi (α := Q4) (fun cs x => cs = q4C x ∧ x.wf) underlying26 (sz := 4) (by kernel_rfl) (by decide)
  (jC (opens_array (k := .u8) underlying61 underlying5 (by kernel_rfl) (by kernel_rfl)) ?_)) ?_
 · rintro cs ⟨l, rfl, hl, hw⟩
   obtain ⟨a, b, c, d, rfl⟩ := list4 hl
   exact ⟨⟨a, b, c, d⟩, rfl, u8_of (hw a (by simp)), u8_of (hw b (by simp)), u8_of (hw c (by simp)), u8_of (hw d (by simp))⟩
 · rintro cs ⟨a, len, cap, xs, rfl, rfl, h⟩
   exact ⟨a, cap, xs, rfl, h.part⟩
end
end Go.Proofs.YtaklmbhfmpdinaaGreat
